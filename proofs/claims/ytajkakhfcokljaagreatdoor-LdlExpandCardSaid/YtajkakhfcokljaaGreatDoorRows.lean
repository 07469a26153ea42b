/-
  NARROWER THAN 'FOR EVERY INPUT', by the rows' own cells (each row's printed sentence says how): MatrixNew: laid · MatrixDeterminant: laid · LdlWitness: laid · LdlWitnessRaw: laid · LdlExpand: laid · LdlInertiaCongruence: laid · LdlFactor: laid · LdlRaw: laid · LdlRoundTrip: laid · LdlSchur: laid.
  DERIVED. THE GIVEN ROWS OF THIS SEAT. 10 by the template 'for every input the law returns true; each argument reads behind the call as it read before'; 0 by the template 'total and deterministic' (their statements: YtajkakhfcokljaaGreatDoorTotals.lean).
  GIVEN WITH THE SEED: the statements are not yours to turn. If you find one false, say at which input.
  Laid BY PROGRAM, IN A SANDBOX (cutbox-rows.mjs): the forced cells as the released guide's own fill.sh prints them over the translation 456e90f76f564915… (all of the seat's roots in one cut). By AI agents, Wed Nov 11 2026. No macro, syntax, notation, axiom, sorry.
-/
import Derived.Test.YtajkakhfcokljaaGreatDoorChecked
import GoSem.Claim
import GoSem.ClaimJoined
import GoSem.ClaimMapViews
import Derived.JoinedTies
import Derived.KernelRfl
namespace Go.Proofs.YtajkakhfcokljaaGreatDoor
/- THE CELL 'sum', in the pinned program and in every row, IS THE sha256 OF THE DUMP (.gsa) THAT YtajkakhfcokljaaGreatDoorProg.lean LOADS. Nothing in Lean hashes anything: it is a label: what it is worth is what the hold of that sum in a sandbox is worth. -/
noncomputable def Tryz.pinned : Pinned := { name := "ytajkakhfcokljaagreatdoor", sum := "456e90f76f56491577d30c96adfdf6921f4e9a9317177974633eeeb7b009e075", checked := Tryz.checked }
namespace Rows
def none {H : Type} : Left H := { results := [], args := [] }

/- WHAT THE LISTED PACKAGE-LEVEL VARIABLES READ AS WHEN THE CALL BEGINS. Each datum BY PROGRAM (the guide's laid-datum.mjs) off the statement by which the dump's own 'gosem.cut.vars' lays the variable. In a bare row this is a premise. The card (YtajkakhfcokljaaGreatDoorCards.lean) ties it to the program's text. -/
def laid_math_bits_deBruijn32tab {H : Type} : DataW H := .agg [.lit (.int .u8 0), .lit (.int .u8 1), .lit (.int .u8 28), .lit (.int .u8 2), .lit (.int .u8 29), .lit (.int .u8 14), .lit (.int .u8 24), .lit (.int .u8 3), .lit (.int .u8 30), .lit (.int .u8 22), .lit (.int .u8 20), .lit (.int .u8 15), .lit (.int .u8 25), .lit (.int .u8 17), .lit (.int .u8 4), .lit (.int .u8 8), .lit (.int .u8 31), .lit (.int .u8 27), .lit (.int .u8 13), .lit (.int .u8 23), .lit (.int .u8 21), .lit (.int .u8 19), .lit (.int .u8 16), .lit (.int .u8 7), .lit (.int .u8 26), .lit (.int .u8 12), .lit (.int .u8 18), .lit (.int .u8 6), .lit (.int .u8 11), .lit (.int .u8 5), .lit (.int .u8 10), .lit (.int .u8 9)]
def laid_math_bits_deBruijn64tab {H : Type} : DataW H := .agg [.lit (.int .u8 0), .lit (.int .u8 1), .lit (.int .u8 56), .lit (.int .u8 2), .lit (.int .u8 57), .lit (.int .u8 49), .lit (.int .u8 28), .lit (.int .u8 3), .lit (.int .u8 61), .lit (.int .u8 58), .lit (.int .u8 42), .lit (.int .u8 50), .lit (.int .u8 38), .lit (.int .u8 29), .lit (.int .u8 17), .lit (.int .u8 4), .lit (.int .u8 62), .lit (.int .u8 47), .lit (.int .u8 59), .lit (.int .u8 36), .lit (.int .u8 45), .lit (.int .u8 43), .lit (.int .u8 51), .lit (.int .u8 22), .lit (.int .u8 53), .lit (.int .u8 39), .lit (.int .u8 33), .lit (.int .u8 30), .lit (.int .u8 24), .lit (.int .u8 18), .lit (.int .u8 12), .lit (.int .u8 5), .lit (.int .u8 63), .lit (.int .u8 55), .lit (.int .u8 48), .lit (.int .u8 27), .lit (.int .u8 60), .lit (.int .u8 41), .lit (.int .u8 37), .lit (.int .u8 16), .lit (.int .u8 46), .lit (.int .u8 35), .lit (.int .u8 44), .lit (.int .u8 21), .lit (.int .u8 52), .lit (.int .u8 32), .lit (.int .u8 23), .lit (.int .u8 11), .lit (.int .u8 54), .lit (.int .u8 26), .lit (.int .u8 40), .lit (.int .u8 15), .lit (.int .u8 34), .lit (.int .u8 20), .lit (.int .u8 31), .lit (.int .u8 10), .lit (.int .u8 25), .lit (.int .u8 14), .lit (.int .u8 19), .lit (.int .u8 9), .lit (.int .u8 13), .lit (.int .u8 8), .lit (.int .u8 7), .lit (.int .u8 6)]
def laid_internal_strconv_uint64pow10 {H : Type} : DataW H := .agg [.lit (.int .u64 1), .lit (.int .u64 10), .lit (.int .u64 100), .lit (.int .u64 1000), .lit (.int .u64 10000), .lit (.int .u64 100000), .lit (.int .u64 1000000), .lit (.int .u64 10000000), .lit (.int .u64 100000000), .lit (.int .u64 1000000000), .lit (.int .u64 10000000000), .lit (.int .u64 100000000000), .lit (.int .u64 1000000000000), .lit (.int .u64 10000000000000), .lit (.int .u64 100000000000000), .lit (.int .u64 1000000000000000), .lit (.int .u64 10000000000000000), .lit (.int .u64 100000000000000000), .lit (.int .u64 1000000000000000000), .lit (.int .u64 10000000000000000000)]

/-- 'sosoptlaw03.MatrixNew': WHATEVER THE INPUT: true; the input reads as it did. -/
def matrixNewSpec : ChangeSpec := { name := "matrixNew", fn := fun _ => fun
  | [d1, d2, d3, d4, d5] => { results := [.lit (.bool true)], args := [d1, d2, d3, d4, d5] }
  | _ => none }
def matrixNewRow : OpenClaim := { program := "ytajkakhfcokljaagreatdoor", sum := "456e90f76f56491577d30c96adfdf6921f4e9a9317177974633eeeb7b009e075", func := "sosopt/sosoptlaw03.MatrixNew", spec := "matrixNew", inPlace := ["math/bits.Add64", "math/bits.Sub64"], unfollowed := true, recurses := true, named := ["math/bits.divideError", "math/bits.overflowError", "math/bits.deBruijn64tab", "internal/strconv.uint64pow10", "math/bits.deBruijn32tab"], apart := false, laid := [("math/bits.deBruijn32tab", laid_math_bits_deBruijn32tab), ("math/bits.deBruijn64tab", laid_math_bits_deBruijn64tab), ("internal/strconv.uint64pow10", laid_internal_strconv_uint64pow10)] }
def MatrixNewSaid : Prop := matrixNewRow.holds Tryz.pinned (OpenSpec.ofChange matrixNewSpec)

/-- ITS FALSE NEIGHBOUR: 'it returns false'. Refute it at one input. -/
def matrixNewWrong : ChangeSpec := { name := "matrixNew", fn := fun _ => fun
  | [d1, d2, d3, d4, d5] => { results := [.lit (.bool false)], args := [d1, d2, d3, d4, d5] }
  | _ => none }
def MatrixNewWrongFalsely : Prop := matrixNewRow.holds Tryz.pinned (OpenSpec.ofChange matrixNewWrong)

/-- 'sosoptlaw03.MatrixDeterminant': WHATEVER THE INPUT: true; the input reads as it did. -/
def matrixDeterminantSpec : ChangeSpec := { name := "matrixDeterminant", fn := fun _ => fun
  | [d1, d2, d3] => { results := [.lit (.bool true)], args := [d1, d2, d3] }
  | _ => none }
def matrixDeterminantRow : OpenClaim := { program := "ytajkakhfcokljaagreatdoor", sum := "456e90f76f56491577d30c96adfdf6921f4e9a9317177974633eeeb7b009e075", func := "sosopt/sosoptlaw03.MatrixDeterminant", spec := "matrixDeterminant", inPlace := ["math/bits.Add64", "math/bits.Sub64"], unfollowed := true, recurses := true, named := ["math/bits.divideError", "math/bits.overflowError", "math/bits.deBruijn64tab", "internal/strconv.uint64pow10", "math/bits.deBruijn32tab"], apart := false, laid := [("math/bits.deBruijn32tab", laid_math_bits_deBruijn32tab), ("math/bits.deBruijn64tab", laid_math_bits_deBruijn64tab), ("internal/strconv.uint64pow10", laid_internal_strconv_uint64pow10)] }
def MatrixDeterminantSaid : Prop := matrixDeterminantRow.holds Tryz.pinned (OpenSpec.ofChange matrixDeterminantSpec)

/-- ITS FALSE NEIGHBOUR: 'it returns false'. Refute it at one input. -/
def matrixDeterminantWrong : ChangeSpec := { name := "matrixDeterminant", fn := fun _ => fun
  | [d1, d2, d3] => { results := [.lit (.bool false)], args := [d1, d2, d3] }
  | _ => none }
def MatrixDeterminantWrongFalsely : Prop := matrixDeterminantRow.holds Tryz.pinned (OpenSpec.ofChange matrixDeterminantWrong)

/-- 'sosoptlaw04.LdlWitness': WHATEVER THE INPUT: true; the input reads as it did. -/
def ldlWitnessSpec : ChangeSpec := { name := "ldlWitness", fn := fun _ => fun
  | [d1, d2, d3] => { results := [.lit (.bool true)], args := [d1, d2, d3] }
  | _ => none }
def ldlWitnessRow : OpenClaim := { program := "ytajkakhfcokljaagreatdoor", sum := "456e90f76f56491577d30c96adfdf6921f4e9a9317177974633eeeb7b009e075", func := "sosopt/sosoptlaw04.LdlWitness", spec := "ldlWitness", inPlace := ["math/bits.Add64", "math/bits.Sub64"], unfollowed := true, recurses := true, named := ["math/bits.divideError", "math/bits.overflowError", "math/bits.deBruijn64tab", "internal/strconv.uint64pow10", "math/bits.deBruijn32tab"], apart := false, laid := [("math/bits.deBruijn32tab", laid_math_bits_deBruijn32tab), ("math/bits.deBruijn64tab", laid_math_bits_deBruijn64tab), ("internal/strconv.uint64pow10", laid_internal_strconv_uint64pow10)] }
def LdlWitnessSaid : Prop := ldlWitnessRow.holds Tryz.pinned (OpenSpec.ofChange ldlWitnessSpec)

/-- ITS FALSE NEIGHBOUR: 'it returns false'. Refute it at one input. -/
def ldlWitnessWrong : ChangeSpec := { name := "ldlWitness", fn := fun _ => fun
  | [d1, d2, d3] => { results := [.lit (.bool false)], args := [d1, d2, d3] }
  | _ => none }
def LdlWitnessWrongFalsely : Prop := ldlWitnessRow.holds Tryz.pinned (OpenSpec.ofChange ldlWitnessWrong)

/-- 'sosoptlaw04.LdlWitnessRaw': WHATEVER THE INPUT: true; the input reads as it did. -/
def ldlWitnessRawSpec : ChangeSpec := { name := "ldlWitnessRaw", fn := fun _ => fun
  | [d] => { results := [.lit (.bool true)], args := [d] }
  | _ => none }
def ldlWitnessRawRow : OpenClaim := { program := "ytajkakhfcokljaagreatdoor", sum := "456e90f76f56491577d30c96adfdf6921f4e9a9317177974633eeeb7b009e075", func := "sosopt/sosoptlaw04.LdlWitnessRaw", spec := "ldlWitnessRaw", inPlace := ["math/bits.Add64", "math/bits.Sub64"], unfollowed := true, recurses := true, named := ["math/bits.divideError", "math/bits.overflowError", "math/bits.deBruijn64tab", "internal/strconv.uint64pow10", "math/bits.deBruijn32tab"], apart := false, laid := [("math/bits.deBruijn32tab", laid_math_bits_deBruijn32tab), ("math/bits.deBruijn64tab", laid_math_bits_deBruijn64tab), ("internal/strconv.uint64pow10", laid_internal_strconv_uint64pow10)] }
def LdlWitnessRawSaid : Prop := ldlWitnessRawRow.holds Tryz.pinned (OpenSpec.ofChange ldlWitnessRawSpec)

/-- ITS FALSE NEIGHBOUR: 'it returns false'. Refute it at one input. -/
def ldlWitnessRawWrong : ChangeSpec := { name := "ldlWitnessRaw", fn := fun _ => fun
  | [d] => { results := [.lit (.bool false)], args := [d] }
  | _ => none }
def LdlWitnessRawWrongFalsely : Prop := ldlWitnessRawRow.holds Tryz.pinned (OpenSpec.ofChange ldlWitnessRawWrong)

/-- 'sosoptlaw04.LdlExpand': WHATEVER THE INPUT: true; the input reads as it did. -/
def ldlExpandSpec : ChangeSpec := { name := "ldlExpand", fn := fun _ => fun
  | [d1, d2] => { results := [.lit (.bool true)], args := [d1, d2] }
  | _ => none }
def ldlExpandRow : OpenClaim := { program := "ytajkakhfcokljaagreatdoor", sum := "456e90f76f56491577d30c96adfdf6921f4e9a9317177974633eeeb7b009e075", func := "sosopt/sosoptlaw04.LdlExpand", spec := "ldlExpand", inPlace := ["math/bits.Add64", "math/bits.Sub64"], unfollowed := true, recurses := true, named := ["math/bits.divideError", "math/bits.overflowError", "math/bits.deBruijn64tab", "internal/strconv.uint64pow10", "math/bits.deBruijn32tab"], apart := false, laid := [("math/bits.deBruijn32tab", laid_math_bits_deBruijn32tab), ("math/bits.deBruijn64tab", laid_math_bits_deBruijn64tab), ("internal/strconv.uint64pow10", laid_internal_strconv_uint64pow10)] }
def LdlExpandSaid : Prop := ldlExpandRow.holds Tryz.pinned (OpenSpec.ofChange ldlExpandSpec)

/-- ITS FALSE NEIGHBOUR: 'it returns false'. Refute it at one input. -/
def ldlExpandWrong : ChangeSpec := { name := "ldlExpand", fn := fun _ => fun
  | [d1, d2] => { results := [.lit (.bool false)], args := [d1, d2] }
  | _ => none }
def LdlExpandWrongFalsely : Prop := ldlExpandRow.holds Tryz.pinned (OpenSpec.ofChange ldlExpandWrong)

/-- 'sosoptlaw04.LdlInertiaCongruence': WHATEVER THE INPUT: true; the input reads as it did. -/
def ldlInertiaCongruenceSpec : ChangeSpec := { name := "ldlInertiaCongruence", fn := fun _ => fun
  | [d1, d2, d3, d4] => { results := [.lit (.bool true)], args := [d1, d2, d3, d4] }
  | _ => none }
def ldlInertiaCongruenceRow : OpenClaim := { program := "ytajkakhfcokljaagreatdoor", sum := "456e90f76f56491577d30c96adfdf6921f4e9a9317177974633eeeb7b009e075", func := "sosopt/sosoptlaw04.LdlInertiaCongruence", spec := "ldlInertiaCongruence", inPlace := ["math/bits.Add64", "math/bits.Sub64"], unfollowed := true, recurses := true, named := ["math/bits.divideError", "math/bits.overflowError", "math/bits.deBruijn64tab", "internal/strconv.uint64pow10", "math/bits.deBruijn32tab"], apart := false, laid := [("math/bits.deBruijn32tab", laid_math_bits_deBruijn32tab), ("math/bits.deBruijn64tab", laid_math_bits_deBruijn64tab), ("internal/strconv.uint64pow10", laid_internal_strconv_uint64pow10)] }
def LdlInertiaCongruenceSaid : Prop := ldlInertiaCongruenceRow.holds Tryz.pinned (OpenSpec.ofChange ldlInertiaCongruenceSpec)

/-- ITS FALSE NEIGHBOUR: 'it returns false'. Refute it at one input. -/
def ldlInertiaCongruenceWrong : ChangeSpec := { name := "ldlInertiaCongruence", fn := fun _ => fun
  | [d1, d2, d3, d4] => { results := [.lit (.bool false)], args := [d1, d2, d3, d4] }
  | _ => none }
def LdlInertiaCongruenceWrongFalsely : Prop := ldlInertiaCongruenceRow.holds Tryz.pinned (OpenSpec.ofChange ldlInertiaCongruenceWrong)

/-- 'sosoptlaw04.LdlFactor': WHATEVER THE INPUT: true; the input reads as it did. -/
def ldlFactorSpec : ChangeSpec := { name := "ldlFactor", fn := fun _ => fun
  | [d1, d2, d3, d4] => { results := [.lit (.bool true)], args := [d1, d2, d3, d4] }
  | _ => none }
def ldlFactorRow : OpenClaim := { program := "ytajkakhfcokljaagreatdoor", sum := "456e90f76f56491577d30c96adfdf6921f4e9a9317177974633eeeb7b009e075", func := "sosopt/sosoptlaw04.LdlFactor", spec := "ldlFactor", inPlace := ["math/bits.Add64", "math/bits.Sub64"], unfollowed := true, recurses := true, named := ["math/bits.divideError", "math/bits.overflowError", "math/bits.deBruijn64tab", "internal/strconv.uint64pow10", "math/bits.deBruijn32tab"], apart := false, laid := [("math/bits.deBruijn32tab", laid_math_bits_deBruijn32tab), ("math/bits.deBruijn64tab", laid_math_bits_deBruijn64tab), ("internal/strconv.uint64pow10", laid_internal_strconv_uint64pow10)] }
def LdlFactorSaid : Prop := ldlFactorRow.holds Tryz.pinned (OpenSpec.ofChange ldlFactorSpec)

/-- ITS FALSE NEIGHBOUR: 'it returns false'. Refute it at one input. -/
def ldlFactorWrong : ChangeSpec := { name := "ldlFactor", fn := fun _ => fun
  | [d1, d2, d3, d4] => { results := [.lit (.bool false)], args := [d1, d2, d3, d4] }
  | _ => none }
def LdlFactorWrongFalsely : Prop := ldlFactorRow.holds Tryz.pinned (OpenSpec.ofChange ldlFactorWrong)

/-- 'sosoptlaw04.LdlRaw': WHATEVER THE INPUT: true; the input reads as it did. -/
def ldlRawSpec : ChangeSpec := { name := "ldlRaw", fn := fun _ => fun
  | [d1, d2, d3] => { results := [.lit (.bool true)], args := [d1, d2, d3] }
  | _ => none }
def ldlRawRow : OpenClaim := { program := "ytajkakhfcokljaagreatdoor", sum := "456e90f76f56491577d30c96adfdf6921f4e9a9317177974633eeeb7b009e075", func := "sosopt/sosoptlaw04.LdlRaw", spec := "ldlRaw", inPlace := ["math/bits.Add64", "math/bits.Sub64"], unfollowed := true, recurses := true, named := ["math/bits.divideError", "math/bits.overflowError", "math/bits.deBruijn64tab", "internal/strconv.uint64pow10", "math/bits.deBruijn32tab"], apart := false, laid := [("math/bits.deBruijn32tab", laid_math_bits_deBruijn32tab), ("math/bits.deBruijn64tab", laid_math_bits_deBruijn64tab), ("internal/strconv.uint64pow10", laid_internal_strconv_uint64pow10)] }
def LdlRawSaid : Prop := ldlRawRow.holds Tryz.pinned (OpenSpec.ofChange ldlRawSpec)

/-- ITS FALSE NEIGHBOUR: 'it returns false'. Refute it at one input. -/
def ldlRawWrong : ChangeSpec := { name := "ldlRaw", fn := fun _ => fun
  | [d1, d2, d3] => { results := [.lit (.bool false)], args := [d1, d2, d3] }
  | _ => none }
def LdlRawWrongFalsely : Prop := ldlRawRow.holds Tryz.pinned (OpenSpec.ofChange ldlRawWrong)

/-- 'sosoptlaw04.LdlRoundTrip': WHATEVER THE INPUT: true; the input reads as it did. -/
def ldlRoundTripSpec : ChangeSpec := { name := "ldlRoundTrip", fn := fun _ => fun
  | [d1, d2, d3] => { results := [.lit (.bool true)], args := [d1, d2, d3] }
  | _ => none }
def ldlRoundTripRow : OpenClaim := { program := "ytajkakhfcokljaagreatdoor", sum := "456e90f76f56491577d30c96adfdf6921f4e9a9317177974633eeeb7b009e075", func := "sosopt/sosoptlaw04.LdlRoundTrip", spec := "ldlRoundTrip", inPlace := ["math/bits.Add64", "math/bits.Sub64"], unfollowed := true, recurses := true, named := ["math/bits.divideError", "math/bits.overflowError", "math/bits.deBruijn64tab", "internal/strconv.uint64pow10", "math/bits.deBruijn32tab"], apart := false, laid := [("math/bits.deBruijn32tab", laid_math_bits_deBruijn32tab), ("math/bits.deBruijn64tab", laid_math_bits_deBruijn64tab), ("internal/strconv.uint64pow10", laid_internal_strconv_uint64pow10)] }
def LdlRoundTripSaid : Prop := ldlRoundTripRow.holds Tryz.pinned (OpenSpec.ofChange ldlRoundTripSpec)

/-- ITS FALSE NEIGHBOUR: 'it returns false'. Refute it at one input. -/
def ldlRoundTripWrong : ChangeSpec := { name := "ldlRoundTrip", fn := fun _ => fun
  | [d1, d2, d3] => { results := [.lit (.bool false)], args := [d1, d2, d3] }
  | _ => none }
def LdlRoundTripWrongFalsely : Prop := ldlRoundTripRow.holds Tryz.pinned (OpenSpec.ofChange ldlRoundTripWrong)

/-- 'sosoptlaw04.LdlSchur': WHATEVER THE INPUT: true; the input reads as it did. -/
def ldlSchurSpec : ChangeSpec := { name := "ldlSchur", fn := fun _ => fun
  | [d1, d2, d3, d4] => { results := [.lit (.bool true)], args := [d1, d2, d3, d4] }
  | _ => none }
def ldlSchurRow : OpenClaim := { program := "ytajkakhfcokljaagreatdoor", sum := "456e90f76f56491577d30c96adfdf6921f4e9a9317177974633eeeb7b009e075", func := "sosopt/sosoptlaw04.LdlSchur", spec := "ldlSchur", inPlace := ["math/bits.Add64", "math/bits.Sub64"], unfollowed := true, recurses := true, named := ["math/bits.divideError", "math/bits.overflowError", "math/bits.deBruijn64tab", "internal/strconv.uint64pow10", "math/bits.deBruijn32tab"], apart := false, laid := [("math/bits.deBruijn32tab", laid_math_bits_deBruijn32tab), ("math/bits.deBruijn64tab", laid_math_bits_deBruijn64tab), ("internal/strconv.uint64pow10", laid_internal_strconv_uint64pow10)] }
def LdlSchurSaid : Prop := ldlSchurRow.holds Tryz.pinned (OpenSpec.ofChange ldlSchurSpec)

/-- ITS FALSE NEIGHBOUR: 'it returns false'. Refute it at one input. -/
def ldlSchurWrong : ChangeSpec := { name := "ldlSchur", fn := fun _ => fun
  | [d1, d2, d3, d4] => { results := [.lit (.bool false)], args := [d1, d2, d3, d4] }
  | _ => none }
def LdlSchurWrongFalsely : Prop := ldlSchurRow.holds Tryz.pinned (OpenSpec.ofChange ldlSchurWrong)

/- THE SECOND FORM. 'bulk': how many values and letters a reading holds, each counted each time it is reached (what is shared counts as often as it is met; a slice's spare places count too). A statement '..UptoSaid' is the law's where the arguments, and the package variables that the reading takes, are together of bulk at most 1048576: NARROWER than '..Said'. Prove '..Said' where nothing that the law and all that it calls make is longer than what came in: it says more and counts as full. Else prove '..UptoSaid'. A law counts once. -/
mutual
def uptoBulk {H : Type} : DataW H → Nat
  | .lit (.string bytes) => bytes.length + 1
  | .lit _ => 1
  | .nil => 1
  | .ptr d => uptoBulk d + 1
  | .slice elems spare => uptoBulkAll elems + uptoBulkAll spare + 1
  | .agg parts => uptoBulkAll parts + 1
  | .iface _ d => uptoBulk d + 1
  | .map entries => uptoBulkEntries entries + 1
  | .held _ => 1
def uptoBulkAll {H : Type} : List (DataW H) → Nat
  | [] => 0
  | d :: r => uptoBulk d + uptoBulkAll r
def uptoBulkEntries {H : Type} : List (Lit × DataW H) → Nat
  | [] => 0
  | x :: r => uptoBulkEntry x + uptoBulkEntries r
def uptoBulkEntry {H : Type} : Lit × DataW H → Nat
  | (.string bytes, d) => bytes.length + uptoBulk d + 1
  | (_, d) => uptoBulk d + 1
 end
def uptoSmall : (H : Type) → List (DataW H) → Bool := fun _ ds => decide (uptoBulkAll ds ≤ 1048576)
def OpenSpec.upto (s : _root_.Go.ChangeSpec) : _root_.Go.OpenSpec := { _root_.Go.OpenSpec.ofChange s with cond := some uptoSmall }

/-- 'sosoptlaw03.MatrixNew', WHERE WHAT IT READS IS OF BULK AT MOST 1048576: true; the input reads as it did. -/
def matrixNewUptoRow : OpenClaim := { program := "ytajkakhfcokljaagreatdoor", sum := "456e90f76f56491577d30c96adfdf6921f4e9a9317177974633eeeb7b009e075", func := "sosopt/sosoptlaw03.MatrixNew", spec := "matrixNew", inPlace := ["math/bits.Add64", "math/bits.Sub64"], unfollowed := true, recurses := true, named := ["math/bits.divideError", "math/bits.overflowError", "math/bits.deBruijn64tab", "internal/strconv.uint64pow10", "math/bits.deBruijn32tab"], apart := false, laid := [("math/bits.deBruijn32tab", laid_math_bits_deBruijn32tab), ("math/bits.deBruijn64tab", laid_math_bits_deBruijn64tab), ("internal/strconv.uint64pow10", laid_internal_strconv_uint64pow10)], narrowed := true }
def MatrixNewUptoSaid : Prop := matrixNewUptoRow.holds Tryz.pinned (OpenSpec.upto matrixNewSpec)

/-- 'sosoptlaw03.MatrixDeterminant', WHERE WHAT IT READS IS OF BULK AT MOST 1048576: true; the input reads as it did. -/
def matrixDeterminantUptoRow : OpenClaim := { program := "ytajkakhfcokljaagreatdoor", sum := "456e90f76f56491577d30c96adfdf6921f4e9a9317177974633eeeb7b009e075", func := "sosopt/sosoptlaw03.MatrixDeterminant", spec := "matrixDeterminant", inPlace := ["math/bits.Add64", "math/bits.Sub64"], unfollowed := true, recurses := true, named := ["math/bits.divideError", "math/bits.overflowError", "math/bits.deBruijn64tab", "internal/strconv.uint64pow10", "math/bits.deBruijn32tab"], apart := false, laid := [("math/bits.deBruijn32tab", laid_math_bits_deBruijn32tab), ("math/bits.deBruijn64tab", laid_math_bits_deBruijn64tab), ("internal/strconv.uint64pow10", laid_internal_strconv_uint64pow10)], narrowed := true }
def MatrixDeterminantUptoSaid : Prop := matrixDeterminantUptoRow.holds Tryz.pinned (OpenSpec.upto matrixDeterminantSpec)

/-- 'sosoptlaw04.LdlWitness', WHERE WHAT IT READS IS OF BULK AT MOST 1048576: true; the input reads as it did. -/
def ldlWitnessUptoRow : OpenClaim := { program := "ytajkakhfcokljaagreatdoor", sum := "456e90f76f56491577d30c96adfdf6921f4e9a9317177974633eeeb7b009e075", func := "sosopt/sosoptlaw04.LdlWitness", spec := "ldlWitness", inPlace := ["math/bits.Add64", "math/bits.Sub64"], unfollowed := true, recurses := true, named := ["math/bits.divideError", "math/bits.overflowError", "math/bits.deBruijn64tab", "internal/strconv.uint64pow10", "math/bits.deBruijn32tab"], apart := false, laid := [("math/bits.deBruijn32tab", laid_math_bits_deBruijn32tab), ("math/bits.deBruijn64tab", laid_math_bits_deBruijn64tab), ("internal/strconv.uint64pow10", laid_internal_strconv_uint64pow10)], narrowed := true }
def LdlWitnessUptoSaid : Prop := ldlWitnessUptoRow.holds Tryz.pinned (OpenSpec.upto ldlWitnessSpec)

/-- 'sosoptlaw04.LdlWitnessRaw', WHERE WHAT IT READS IS OF BULK AT MOST 1048576: true; the input reads as it did. -/
def ldlWitnessRawUptoRow : OpenClaim := { program := "ytajkakhfcokljaagreatdoor", sum := "456e90f76f56491577d30c96adfdf6921f4e9a9317177974633eeeb7b009e075", func := "sosopt/sosoptlaw04.LdlWitnessRaw", spec := "ldlWitnessRaw", inPlace := ["math/bits.Add64", "math/bits.Sub64"], unfollowed := true, recurses := true, named := ["math/bits.divideError", "math/bits.overflowError", "math/bits.deBruijn64tab", "internal/strconv.uint64pow10", "math/bits.deBruijn32tab"], apart := false, laid := [("math/bits.deBruijn32tab", laid_math_bits_deBruijn32tab), ("math/bits.deBruijn64tab", laid_math_bits_deBruijn64tab), ("internal/strconv.uint64pow10", laid_internal_strconv_uint64pow10)], narrowed := true }
def LdlWitnessRawUptoSaid : Prop := ldlWitnessRawUptoRow.holds Tryz.pinned (OpenSpec.upto ldlWitnessRawSpec)

/-- 'sosoptlaw04.LdlExpand', WHERE WHAT IT READS IS OF BULK AT MOST 1048576: true; the input reads as it did. -/
def ldlExpandUptoRow : OpenClaim := { program := "ytajkakhfcokljaagreatdoor", sum := "456e90f76f56491577d30c96adfdf6921f4e9a9317177974633eeeb7b009e075", func := "sosopt/sosoptlaw04.LdlExpand", spec := "ldlExpand", inPlace := ["math/bits.Add64", "math/bits.Sub64"], unfollowed := true, recurses := true, named := ["math/bits.divideError", "math/bits.overflowError", "math/bits.deBruijn64tab", "internal/strconv.uint64pow10", "math/bits.deBruijn32tab"], apart := false, laid := [("math/bits.deBruijn32tab", laid_math_bits_deBruijn32tab), ("math/bits.deBruijn64tab", laid_math_bits_deBruijn64tab), ("internal/strconv.uint64pow10", laid_internal_strconv_uint64pow10)], narrowed := true }
def LdlExpandUptoSaid : Prop := ldlExpandUptoRow.holds Tryz.pinned (OpenSpec.upto ldlExpandSpec)

/-- 'sosoptlaw04.LdlInertiaCongruence', WHERE WHAT IT READS IS OF BULK AT MOST 1048576: true; the input reads as it did. -/
def ldlInertiaCongruenceUptoRow : OpenClaim := { program := "ytajkakhfcokljaagreatdoor", sum := "456e90f76f56491577d30c96adfdf6921f4e9a9317177974633eeeb7b009e075", func := "sosopt/sosoptlaw04.LdlInertiaCongruence", spec := "ldlInertiaCongruence", inPlace := ["math/bits.Add64", "math/bits.Sub64"], unfollowed := true, recurses := true, named := ["math/bits.divideError", "math/bits.overflowError", "math/bits.deBruijn64tab", "internal/strconv.uint64pow10", "math/bits.deBruijn32tab"], apart := false, laid := [("math/bits.deBruijn32tab", laid_math_bits_deBruijn32tab), ("math/bits.deBruijn64tab", laid_math_bits_deBruijn64tab), ("internal/strconv.uint64pow10", laid_internal_strconv_uint64pow10)], narrowed := true }
def LdlInertiaCongruenceUptoSaid : Prop := ldlInertiaCongruenceUptoRow.holds Tryz.pinned (OpenSpec.upto ldlInertiaCongruenceSpec)

/-- 'sosoptlaw04.LdlFactor', WHERE WHAT IT READS IS OF BULK AT MOST 1048576: true; the input reads as it did. -/
def ldlFactorUptoRow : OpenClaim := { program := "ytajkakhfcokljaagreatdoor", sum := "456e90f76f56491577d30c96adfdf6921f4e9a9317177974633eeeb7b009e075", func := "sosopt/sosoptlaw04.LdlFactor", spec := "ldlFactor", inPlace := ["math/bits.Add64", "math/bits.Sub64"], unfollowed := true, recurses := true, named := ["math/bits.divideError", "math/bits.overflowError", "math/bits.deBruijn64tab", "internal/strconv.uint64pow10", "math/bits.deBruijn32tab"], apart := false, laid := [("math/bits.deBruijn32tab", laid_math_bits_deBruijn32tab), ("math/bits.deBruijn64tab", laid_math_bits_deBruijn64tab), ("internal/strconv.uint64pow10", laid_internal_strconv_uint64pow10)], narrowed := true }
def LdlFactorUptoSaid : Prop := ldlFactorUptoRow.holds Tryz.pinned (OpenSpec.upto ldlFactorSpec)

/-- 'sosoptlaw04.LdlRaw', WHERE WHAT IT READS IS OF BULK AT MOST 1048576: true; the input reads as it did. -/
def ldlRawUptoRow : OpenClaim := { program := "ytajkakhfcokljaagreatdoor", sum := "456e90f76f56491577d30c96adfdf6921f4e9a9317177974633eeeb7b009e075", func := "sosopt/sosoptlaw04.LdlRaw", spec := "ldlRaw", inPlace := ["math/bits.Add64", "math/bits.Sub64"], unfollowed := true, recurses := true, named := ["math/bits.divideError", "math/bits.overflowError", "math/bits.deBruijn64tab", "internal/strconv.uint64pow10", "math/bits.deBruijn32tab"], apart := false, laid := [("math/bits.deBruijn32tab", laid_math_bits_deBruijn32tab), ("math/bits.deBruijn64tab", laid_math_bits_deBruijn64tab), ("internal/strconv.uint64pow10", laid_internal_strconv_uint64pow10)], narrowed := true }
def LdlRawUptoSaid : Prop := ldlRawUptoRow.holds Tryz.pinned (OpenSpec.upto ldlRawSpec)

/-- 'sosoptlaw04.LdlRoundTrip', WHERE WHAT IT READS IS OF BULK AT MOST 1048576: true; the input reads as it did. -/
def ldlRoundTripUptoRow : OpenClaim := { program := "ytajkakhfcokljaagreatdoor", sum := "456e90f76f56491577d30c96adfdf6921f4e9a9317177974633eeeb7b009e075", func := "sosopt/sosoptlaw04.LdlRoundTrip", spec := "ldlRoundTrip", inPlace := ["math/bits.Add64", "math/bits.Sub64"], unfollowed := true, recurses := true, named := ["math/bits.divideError", "math/bits.overflowError", "math/bits.deBruijn64tab", "internal/strconv.uint64pow10", "math/bits.deBruijn32tab"], apart := false, laid := [("math/bits.deBruijn32tab", laid_math_bits_deBruijn32tab), ("math/bits.deBruijn64tab", laid_math_bits_deBruijn64tab), ("internal/strconv.uint64pow10", laid_internal_strconv_uint64pow10)], narrowed := true }
def LdlRoundTripUptoSaid : Prop := ldlRoundTripUptoRow.holds Tryz.pinned (OpenSpec.upto ldlRoundTripSpec)

/-- 'sosoptlaw04.LdlSchur', WHERE WHAT IT READS IS OF BULK AT MOST 1048576: true; the input reads as it did. -/
def ldlSchurUptoRow : OpenClaim := { program := "ytajkakhfcokljaagreatdoor", sum := "456e90f76f56491577d30c96adfdf6921f4e9a9317177974633eeeb7b009e075", func := "sosopt/sosoptlaw04.LdlSchur", spec := "ldlSchur", inPlace := ["math/bits.Add64", "math/bits.Sub64"], unfollowed := true, recurses := true, named := ["math/bits.divideError", "math/bits.overflowError", "math/bits.deBruijn64tab", "internal/strconv.uint64pow10", "math/bits.deBruijn32tab"], apart := false, laid := [("math/bits.deBruijn32tab", laid_math_bits_deBruijn32tab), ("math/bits.deBruijn64tab", laid_math_bits_deBruijn64tab), ("internal/strconv.uint64pow10", laid_internal_strconv_uint64pow10)], narrowed := true }
def LdlSchurUptoSaid : Prop := ldlSchurUptoRow.holds Tryz.pinned (OpenSpec.upto ldlSchurSpec)

end Rows
end Go.Proofs.YtajkakhfcokljaaGreatDoor
