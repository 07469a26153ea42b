/-
  NARROWER THAN 'FOR EVERY INPUT', by the rows' own cells (each row's printed sentence says how): MatrixReduce: laid · MatrixSolve: laid · MatrixProducts: laid · MatrixInverse: laid · MatrixOwn: laid · MatrixRing: laid · MatrixNew: laid · MatrixLinear: laid · MatrixFactors: laid · MatrixDeterminant: laid.
  DERIVED. THE GIVEN ROWS OF THIS SEAT. 10 by the template 'for every input the law returns true; each argument reads behind the call as it read before'; 0 by the template 'total and deterministic' (their statements: YthilnfgnpdeofaaGreatDoorTotals.lean).
  GIVEN WITH THE SEED: the statements are not yours to turn. If you find one false, say at which input.
  Laid BY PROGRAM, IN A SANDBOX (cutbox-rows.mjs): the forced cells as the released guide's own fill.sh prints them over the translation 3c9b488344b69091… (all of the seat's roots in one cut). By AI agents, Wed Nov 11 2026. No macro, syntax, notation, axiom, sorry.
-/
import Derived.Test.YthilnfgnpdeofaaGreatDoorChecked
import GoSem.Claim
import GoSem.ClaimJoined
import GoSem.ClaimMapViews
import Derived.JoinedTies
import Derived.KernelRfl
namespace Go.Proofs.YthilnfgnpdeofaaGreatDoor
/- THE CELL 'sum', in the pinned program and in every row, IS THE sha256 OF THE DUMP (.gsa) THAT YthilnfgnpdeofaaGreatDoorProg.lean LOADS. Nothing in Lean hashes anything: it is a label: what it is worth is what the hold of that sum in a sandbox is worth. -/
noncomputable def Tryz.pinned : Pinned := { name := "ythilnfgnpdeofaagreatdoor", sum := "3c9b488344b69091a60e8353befbd081a200257a3fd6edb1bc3ef6228298b62c", checked := Tryz.checked }
namespace Rows
def none {H : Type} : Left H := { results := [], args := [] }

/- WHAT THE LISTED PACKAGE-LEVEL VARIABLES READ AS WHEN THE CALL BEGINS. Each datum BY PROGRAM (the guide's laid-datum.mjs) off the statement by which the dump's own 'gosem.cut.vars' lays the variable. In a bare row this is a premise. The card (YthilnfgnpdeofaaGreatDoorCards.lean) ties it to the program's text. -/
def laid_math_bits_deBruijn32tab {H : Type} : DataW H := .agg [.lit (.int .u8 0), .lit (.int .u8 1), .lit (.int .u8 28), .lit (.int .u8 2), .lit (.int .u8 29), .lit (.int .u8 14), .lit (.int .u8 24), .lit (.int .u8 3), .lit (.int .u8 30), .lit (.int .u8 22), .lit (.int .u8 20), .lit (.int .u8 15), .lit (.int .u8 25), .lit (.int .u8 17), .lit (.int .u8 4), .lit (.int .u8 8), .lit (.int .u8 31), .lit (.int .u8 27), .lit (.int .u8 13), .lit (.int .u8 23), .lit (.int .u8 21), .lit (.int .u8 19), .lit (.int .u8 16), .lit (.int .u8 7), .lit (.int .u8 26), .lit (.int .u8 12), .lit (.int .u8 18), .lit (.int .u8 6), .lit (.int .u8 11), .lit (.int .u8 5), .lit (.int .u8 10), .lit (.int .u8 9)]
def laid_math_bits_deBruijn64tab {H : Type} : DataW H := .agg [.lit (.int .u8 0), .lit (.int .u8 1), .lit (.int .u8 56), .lit (.int .u8 2), .lit (.int .u8 57), .lit (.int .u8 49), .lit (.int .u8 28), .lit (.int .u8 3), .lit (.int .u8 61), .lit (.int .u8 58), .lit (.int .u8 42), .lit (.int .u8 50), .lit (.int .u8 38), .lit (.int .u8 29), .lit (.int .u8 17), .lit (.int .u8 4), .lit (.int .u8 62), .lit (.int .u8 47), .lit (.int .u8 59), .lit (.int .u8 36), .lit (.int .u8 45), .lit (.int .u8 43), .lit (.int .u8 51), .lit (.int .u8 22), .lit (.int .u8 53), .lit (.int .u8 39), .lit (.int .u8 33), .lit (.int .u8 30), .lit (.int .u8 24), .lit (.int .u8 18), .lit (.int .u8 12), .lit (.int .u8 5), .lit (.int .u8 63), .lit (.int .u8 55), .lit (.int .u8 48), .lit (.int .u8 27), .lit (.int .u8 60), .lit (.int .u8 41), .lit (.int .u8 37), .lit (.int .u8 16), .lit (.int .u8 46), .lit (.int .u8 35), .lit (.int .u8 44), .lit (.int .u8 21), .lit (.int .u8 52), .lit (.int .u8 32), .lit (.int .u8 23), .lit (.int .u8 11), .lit (.int .u8 54), .lit (.int .u8 26), .lit (.int .u8 40), .lit (.int .u8 15), .lit (.int .u8 34), .lit (.int .u8 20), .lit (.int .u8 31), .lit (.int .u8 10), .lit (.int .u8 25), .lit (.int .u8 14), .lit (.int .u8 19), .lit (.int .u8 9), .lit (.int .u8 13), .lit (.int .u8 8), .lit (.int .u8 7), .lit (.int .u8 6)]
def laid_internal_strconv_uint64pow10 {H : Type} : DataW H := .agg [.lit (.int .u64 1), .lit (.int .u64 10), .lit (.int .u64 100), .lit (.int .u64 1000), .lit (.int .u64 10000), .lit (.int .u64 100000), .lit (.int .u64 1000000), .lit (.int .u64 10000000), .lit (.int .u64 100000000), .lit (.int .u64 1000000000), .lit (.int .u64 10000000000), .lit (.int .u64 100000000000), .lit (.int .u64 1000000000000), .lit (.int .u64 10000000000000), .lit (.int .u64 100000000000000), .lit (.int .u64 1000000000000000), .lit (.int .u64 10000000000000000), .lit (.int .u64 100000000000000000), .lit (.int .u64 1000000000000000000), .lit (.int .u64 10000000000000000000)]

/-- 'sosoptlaw03.MatrixReduce': WHATEVER THE INPUT: true; the input reads as it did. -/
def matrixReduceSpec : ChangeSpec := { name := "matrixReduce", fn := fun _ => fun
  | [d] => { results := [.lit (.bool true)], args := [d] }
  | _ => none }
def matrixReduceRow : OpenClaim := { program := "ythilnfgnpdeofaagreatdoor", sum := "3c9b488344b69091a60e8353befbd081a200257a3fd6edb1bc3ef6228298b62c", func := "sosopt/sosoptlaw03.MatrixReduce", spec := "matrixReduce", inPlace := ["math/bits.Add64", "math/bits.Sub64"], unfollowed := true, recurses := true, named := ["math/bits.divideError", "math/bits.overflowError", "math/bits.deBruijn64tab", "internal/strconv.uint64pow10", "math/bits.deBruijn32tab"], apart := false, laid := [("math/bits.deBruijn32tab", laid_math_bits_deBruijn32tab), ("math/bits.deBruijn64tab", laid_math_bits_deBruijn64tab), ("internal/strconv.uint64pow10", laid_internal_strconv_uint64pow10)] }
def MatrixReduceSaid : Prop := matrixReduceRow.holds Tryz.pinned (OpenSpec.ofChange matrixReduceSpec)

/-- ITS FALSE NEIGHBOUR: 'it returns false'. Refute it at one input. -/
def matrixReduceWrong : ChangeSpec := { name := "matrixReduce", fn := fun _ => fun
  | [d] => { results := [.lit (.bool false)], args := [d] }
  | _ => none }
def MatrixReduceWrongFalsely : Prop := matrixReduceRow.holds Tryz.pinned (OpenSpec.ofChange matrixReduceWrong)

/-- 'sosoptlaw03.MatrixSolve': WHATEVER THE INPUT: true; the input reads as it did. -/
def matrixSolveSpec : ChangeSpec := { name := "matrixSolve", fn := fun _ => fun
  | [d1, d2] => { results := [.lit (.bool true)], args := [d1, d2] }
  | _ => none }
def matrixSolveRow : OpenClaim := { program := "ythilnfgnpdeofaagreatdoor", sum := "3c9b488344b69091a60e8353befbd081a200257a3fd6edb1bc3ef6228298b62c", func := "sosopt/sosoptlaw03.MatrixSolve", spec := "matrixSolve", inPlace := ["math/bits.Add64", "math/bits.Sub64"], unfollowed := true, recurses := true, named := ["math/bits.divideError", "math/bits.overflowError", "math/bits.deBruijn64tab", "internal/strconv.uint64pow10", "math/bits.deBruijn32tab"], apart := false, laid := [("math/bits.deBruijn32tab", laid_math_bits_deBruijn32tab), ("math/bits.deBruijn64tab", laid_math_bits_deBruijn64tab), ("internal/strconv.uint64pow10", laid_internal_strconv_uint64pow10)] }
def MatrixSolveSaid : Prop := matrixSolveRow.holds Tryz.pinned (OpenSpec.ofChange matrixSolveSpec)

/-- ITS FALSE NEIGHBOUR: 'it returns false'. Refute it at one input. -/
def matrixSolveWrong : ChangeSpec := { name := "matrixSolve", fn := fun _ => fun
  | [d1, d2] => { results := [.lit (.bool false)], args := [d1, d2] }
  | _ => none }
def MatrixSolveWrongFalsely : Prop := matrixSolveRow.holds Tryz.pinned (OpenSpec.ofChange matrixSolveWrong)

/-- 'sosoptlaw03.MatrixProducts': WHATEVER THE INPUT: true; the input reads as it did. -/
def matrixProductsSpec : ChangeSpec := { name := "matrixProducts", fn := fun _ => fun
  | [d1, d2, d3] => { results := [.lit (.bool true)], args := [d1, d2, d3] }
  | _ => none }
def matrixProductsRow : OpenClaim := { program := "ythilnfgnpdeofaagreatdoor", sum := "3c9b488344b69091a60e8353befbd081a200257a3fd6edb1bc3ef6228298b62c", func := "sosopt/sosoptlaw03.MatrixProducts", spec := "matrixProducts", inPlace := ["math/bits.Add64", "math/bits.Sub64"], unfollowed := true, recurses := true, named := ["math/bits.divideError", "math/bits.overflowError", "math/bits.deBruijn64tab", "internal/strconv.uint64pow10", "math/bits.deBruijn32tab"], apart := false, laid := [("math/bits.deBruijn32tab", laid_math_bits_deBruijn32tab), ("math/bits.deBruijn64tab", laid_math_bits_deBruijn64tab), ("internal/strconv.uint64pow10", laid_internal_strconv_uint64pow10)] }
def MatrixProductsSaid : Prop := matrixProductsRow.holds Tryz.pinned (OpenSpec.ofChange matrixProductsSpec)

/-- ITS FALSE NEIGHBOUR: 'it returns false'. Refute it at one input. -/
def matrixProductsWrong : ChangeSpec := { name := "matrixProducts", fn := fun _ => fun
  | [d1, d2, d3] => { results := [.lit (.bool false)], args := [d1, d2, d3] }
  | _ => none }
def MatrixProductsWrongFalsely : Prop := matrixProductsRow.holds Tryz.pinned (OpenSpec.ofChange matrixProductsWrong)

/-- 'sosoptlaw03.MatrixInverse': WHATEVER THE INPUT: true; the input reads as it did. -/
def matrixInverseSpec : ChangeSpec := { name := "matrixInverse", fn := fun _ => fun
  | [d] => { results := [.lit (.bool true)], args := [d] }
  | _ => none }
def matrixInverseRow : OpenClaim := { program := "ythilnfgnpdeofaagreatdoor", sum := "3c9b488344b69091a60e8353befbd081a200257a3fd6edb1bc3ef6228298b62c", func := "sosopt/sosoptlaw03.MatrixInverse", spec := "matrixInverse", inPlace := ["math/bits.Add64", "math/bits.Sub64"], unfollowed := true, recurses := true, named := ["math/bits.divideError", "math/bits.overflowError", "math/bits.deBruijn64tab", "internal/strconv.uint64pow10", "math/bits.deBruijn32tab"], apart := false, laid := [("math/bits.deBruijn32tab", laid_math_bits_deBruijn32tab), ("math/bits.deBruijn64tab", laid_math_bits_deBruijn64tab), ("internal/strconv.uint64pow10", laid_internal_strconv_uint64pow10)] }
def MatrixInverseSaid : Prop := matrixInverseRow.holds Tryz.pinned (OpenSpec.ofChange matrixInverseSpec)

/-- ITS FALSE NEIGHBOUR: 'it returns false'. Refute it at one input. -/
def matrixInverseWrong : ChangeSpec := { name := "matrixInverse", fn := fun _ => fun
  | [d] => { results := [.lit (.bool false)], args := [d] }
  | _ => none }
def MatrixInverseWrongFalsely : Prop := matrixInverseRow.holds Tryz.pinned (OpenSpec.ofChange matrixInverseWrong)

/-- 'sosoptlaw03.MatrixOwn': WHATEVER THE INPUT: true; the input reads as it did. -/
def matrixOwnSpec : ChangeSpec := { name := "matrixOwn", fn := fun _ => fun
  | [d] => { results := [.lit (.bool true)], args := [d] }
  | _ => none }
def matrixOwnRow : OpenClaim := { program := "ythilnfgnpdeofaagreatdoor", sum := "3c9b488344b69091a60e8353befbd081a200257a3fd6edb1bc3ef6228298b62c", func := "sosopt/sosoptlaw03.MatrixOwn", spec := "matrixOwn", inPlace := ["math/bits.Add64", "math/bits.Sub64"], unfollowed := true, recurses := true, named := ["math/bits.divideError", "math/bits.overflowError", "math/bits.deBruijn64tab", "internal/strconv.uint64pow10", "math/bits.deBruijn32tab"], apart := false, laid := [("math/bits.deBruijn32tab", laid_math_bits_deBruijn32tab), ("math/bits.deBruijn64tab", laid_math_bits_deBruijn64tab), ("internal/strconv.uint64pow10", laid_internal_strconv_uint64pow10)] }
def MatrixOwnSaid : Prop := matrixOwnRow.holds Tryz.pinned (OpenSpec.ofChange matrixOwnSpec)

/-- ITS FALSE NEIGHBOUR: 'it returns false'. Refute it at one input. -/
def matrixOwnWrong : ChangeSpec := { name := "matrixOwn", fn := fun _ => fun
  | [d] => { results := [.lit (.bool false)], args := [d] }
  | _ => none }
def MatrixOwnWrongFalsely : Prop := matrixOwnRow.holds Tryz.pinned (OpenSpec.ofChange matrixOwnWrong)

/-- 'sosoptlaw03.MatrixRing': WHATEVER THE INPUT: true; the input reads as it did. -/
def matrixRingSpec : ChangeSpec := { name := "matrixRing", fn := fun _ => fun
  | [d1, d2, d3] => { results := [.lit (.bool true)], args := [d1, d2, d3] }
  | _ => none }
def matrixRingRow : OpenClaim := { program := "ythilnfgnpdeofaagreatdoor", sum := "3c9b488344b69091a60e8353befbd081a200257a3fd6edb1bc3ef6228298b62c", func := "sosopt/sosoptlaw03.MatrixRing", spec := "matrixRing", inPlace := ["math/bits.Add64", "math/bits.Sub64"], unfollowed := true, recurses := true, named := ["math/bits.divideError", "math/bits.overflowError", "math/bits.deBruijn64tab", "internal/strconv.uint64pow10", "math/bits.deBruijn32tab"], apart := false, laid := [("math/bits.deBruijn32tab", laid_math_bits_deBruijn32tab), ("math/bits.deBruijn64tab", laid_math_bits_deBruijn64tab), ("internal/strconv.uint64pow10", laid_internal_strconv_uint64pow10)] }
def MatrixRingSaid : Prop := matrixRingRow.holds Tryz.pinned (OpenSpec.ofChange matrixRingSpec)

/-- ITS FALSE NEIGHBOUR: 'it returns false'. Refute it at one input. -/
def matrixRingWrong : ChangeSpec := { name := "matrixRing", fn := fun _ => fun
  | [d1, d2, d3] => { results := [.lit (.bool false)], args := [d1, d2, d3] }
  | _ => none }
def MatrixRingWrongFalsely : Prop := matrixRingRow.holds Tryz.pinned (OpenSpec.ofChange matrixRingWrong)

/-- 'sosoptlaw03.MatrixNew': WHATEVER THE INPUT: true; the input reads as it did. -/
def matrixNewSpec : ChangeSpec := { name := "matrixNew", fn := fun _ => fun
  | [d1, d2, d3, d4, d5] => { results := [.lit (.bool true)], args := [d1, d2, d3, d4, d5] }
  | _ => none }
def matrixNewRow : OpenClaim := { program := "ythilnfgnpdeofaagreatdoor", sum := "3c9b488344b69091a60e8353befbd081a200257a3fd6edb1bc3ef6228298b62c", func := "sosopt/sosoptlaw03.MatrixNew", spec := "matrixNew", inPlace := ["math/bits.Add64", "math/bits.Sub64"], unfollowed := true, recurses := true, named := ["math/bits.divideError", "math/bits.overflowError", "math/bits.deBruijn64tab", "internal/strconv.uint64pow10", "math/bits.deBruijn32tab"], apart := false, laid := [("math/bits.deBruijn32tab", laid_math_bits_deBruijn32tab), ("math/bits.deBruijn64tab", laid_math_bits_deBruijn64tab), ("internal/strconv.uint64pow10", laid_internal_strconv_uint64pow10)] }
def MatrixNewSaid : Prop := matrixNewRow.holds Tryz.pinned (OpenSpec.ofChange matrixNewSpec)

/-- ITS FALSE NEIGHBOUR: 'it returns false'. Refute it at one input. -/
def matrixNewWrong : ChangeSpec := { name := "matrixNew", fn := fun _ => fun
  | [d1, d2, d3, d4, d5] => { results := [.lit (.bool false)], args := [d1, d2, d3, d4, d5] }
  | _ => none }
def MatrixNewWrongFalsely : Prop := matrixNewRow.holds Tryz.pinned (OpenSpec.ofChange matrixNewWrong)

/-- 'sosoptlaw03.MatrixLinear': WHATEVER THE INPUT: true; the input reads as it did. -/
def matrixLinearSpec : ChangeSpec := { name := "matrixLinear", fn := fun _ => fun
  | [d1, d2, d3] => { results := [.lit (.bool true)], args := [d1, d2, d3] }
  | _ => none }
def matrixLinearRow : OpenClaim := { program := "ythilnfgnpdeofaagreatdoor", sum := "3c9b488344b69091a60e8353befbd081a200257a3fd6edb1bc3ef6228298b62c", func := "sosopt/sosoptlaw03.MatrixLinear", spec := "matrixLinear", inPlace := ["math/bits.Add64", "math/bits.Sub64"], unfollowed := true, recurses := true, named := ["math/bits.divideError", "math/bits.overflowError", "math/bits.deBruijn64tab", "internal/strconv.uint64pow10", "math/bits.deBruijn32tab"], apart := false, laid := [("math/bits.deBruijn32tab", laid_math_bits_deBruijn32tab), ("math/bits.deBruijn64tab", laid_math_bits_deBruijn64tab), ("internal/strconv.uint64pow10", laid_internal_strconv_uint64pow10)] }
def MatrixLinearSaid : Prop := matrixLinearRow.holds Tryz.pinned (OpenSpec.ofChange matrixLinearSpec)

/-- ITS FALSE NEIGHBOUR: 'it returns false'. Refute it at one input. -/
def matrixLinearWrong : ChangeSpec := { name := "matrixLinear", fn := fun _ => fun
  | [d1, d2, d3] => { results := [.lit (.bool false)], args := [d1, d2, d3] }
  | _ => none }
def MatrixLinearWrongFalsely : Prop := matrixLinearRow.holds Tryz.pinned (OpenSpec.ofChange matrixLinearWrong)

/-- 'sosoptlaw03.MatrixFactors': WHATEVER THE INPUT: true; the input reads as it did. -/
def matrixFactorsSpec : ChangeSpec := { name := "matrixFactors", fn := fun _ => fun
  | [d] => { results := [.lit (.bool true)], args := [d] }
  | _ => none }
def matrixFactorsRow : OpenClaim := { program := "ythilnfgnpdeofaagreatdoor", sum := "3c9b488344b69091a60e8353befbd081a200257a3fd6edb1bc3ef6228298b62c", func := "sosopt/sosoptlaw03.MatrixFactors", spec := "matrixFactors", inPlace := ["math/bits.Add64", "math/bits.Sub64"], unfollowed := true, recurses := true, named := ["math/bits.divideError", "math/bits.overflowError", "math/bits.deBruijn64tab", "internal/strconv.uint64pow10", "math/bits.deBruijn32tab"], apart := false, laid := [("math/bits.deBruijn32tab", laid_math_bits_deBruijn32tab), ("math/bits.deBruijn64tab", laid_math_bits_deBruijn64tab), ("internal/strconv.uint64pow10", laid_internal_strconv_uint64pow10)] }
def MatrixFactorsSaid : Prop := matrixFactorsRow.holds Tryz.pinned (OpenSpec.ofChange matrixFactorsSpec)

/-- ITS FALSE NEIGHBOUR: 'it returns false'. Refute it at one input. -/
def matrixFactorsWrong : ChangeSpec := { name := "matrixFactors", fn := fun _ => fun
  | [d] => { results := [.lit (.bool false)], args := [d] }
  | _ => none }
def MatrixFactorsWrongFalsely : Prop := matrixFactorsRow.holds Tryz.pinned (OpenSpec.ofChange matrixFactorsWrong)

/-- 'sosoptlaw03.MatrixDeterminant': WHATEVER THE INPUT: true; the input reads as it did. -/
def matrixDeterminantSpec : ChangeSpec := { name := "matrixDeterminant", fn := fun _ => fun
  | [d1, d2, d3] => { results := [.lit (.bool true)], args := [d1, d2, d3] }
  | _ => none }
def matrixDeterminantRow : OpenClaim := { program := "ythilnfgnpdeofaagreatdoor", sum := "3c9b488344b69091a60e8353befbd081a200257a3fd6edb1bc3ef6228298b62c", func := "sosopt/sosoptlaw03.MatrixDeterminant", spec := "matrixDeterminant", inPlace := ["math/bits.Add64", "math/bits.Sub64"], unfollowed := true, recurses := true, named := ["math/bits.divideError", "math/bits.overflowError", "math/bits.deBruijn64tab", "internal/strconv.uint64pow10", "math/bits.deBruijn32tab"], apart := false, laid := [("math/bits.deBruijn32tab", laid_math_bits_deBruijn32tab), ("math/bits.deBruijn64tab", laid_math_bits_deBruijn64tab), ("internal/strconv.uint64pow10", laid_internal_strconv_uint64pow10)] }
def MatrixDeterminantSaid : Prop := matrixDeterminantRow.holds Tryz.pinned (OpenSpec.ofChange matrixDeterminantSpec)

/-- ITS FALSE NEIGHBOUR: 'it returns false'. Refute it at one input. -/
def matrixDeterminantWrong : ChangeSpec := { name := "matrixDeterminant", fn := fun _ => fun
  | [d1, d2, d3] => { results := [.lit (.bool false)], args := [d1, d2, d3] }
  | _ => none }
def MatrixDeterminantWrongFalsely : Prop := matrixDeterminantRow.holds Tryz.pinned (OpenSpec.ofChange matrixDeterminantWrong)

/- THE SECOND FORM. 'bulk': how many values and letters a reading holds, each counted each time it is reached (what is shared counts as often as it is met; a slice's spare places count too). A statement '..UptoSaid' is the law's where the arguments, and the package variables that the reading takes, are together of bulk at most 1048576: NARROWER than '..Said'. Prove '..Said' where nothing that the law and all that it calls make is longer than what came in: it says more and counts as full. Else prove '..UptoSaid'. A law counts once. -/
mutual
def uptoBulk {H : Type} : DataW H → Nat
  | .lit (.string bytes) => bytes.length + 1
  | .lit _ => 1
  | .nil => 1
  | .ptr d => uptoBulk d + 1
  | .slice elems spare => uptoBulkAll elems + uptoBulkAll spare + 1
  | .agg parts => uptoBulkAll parts + 1
  | .iface _ d => uptoBulk d + 1
  | .map entries => uptoBulkEntries entries + 1
  | .held _ => 1
def uptoBulkAll {H : Type} : List (DataW H) → Nat
  | [] => 0
  | d :: r => uptoBulk d + uptoBulkAll r
def uptoBulkEntries {H : Type} : List (Lit × DataW H) → Nat
  | [] => 0
  | x :: r => uptoBulkEntry x + uptoBulkEntries r
def uptoBulkEntry {H : Type} : Lit × DataW H → Nat
  | (.string bytes, d) => bytes.length + uptoBulk d + 1
  | (_, d) => uptoBulk d + 1
 end
def uptoSmall : (H : Type) → List (DataW H) → Bool := fun _ ds => decide (uptoBulkAll ds ≤ 1048576)
def OpenSpec.upto (s : _root_.Go.ChangeSpec) : _root_.Go.OpenSpec := { _root_.Go.OpenSpec.ofChange s with cond := some uptoSmall }

/-- 'sosoptlaw03.MatrixReduce', WHERE WHAT IT READS IS OF BULK AT MOST 1048576: true; the input reads as it did. -/
def matrixReduceUptoRow : OpenClaim := { program := "ythilnfgnpdeofaagreatdoor", sum := "3c9b488344b69091a60e8353befbd081a200257a3fd6edb1bc3ef6228298b62c", func := "sosopt/sosoptlaw03.MatrixReduce", spec := "matrixReduce", inPlace := ["math/bits.Add64", "math/bits.Sub64"], unfollowed := true, recurses := true, named := ["math/bits.divideError", "math/bits.overflowError", "math/bits.deBruijn64tab", "internal/strconv.uint64pow10", "math/bits.deBruijn32tab"], apart := false, laid := [("math/bits.deBruijn32tab", laid_math_bits_deBruijn32tab), ("math/bits.deBruijn64tab", laid_math_bits_deBruijn64tab), ("internal/strconv.uint64pow10", laid_internal_strconv_uint64pow10)], narrowed := true }
def MatrixReduceUptoSaid : Prop := matrixReduceUptoRow.holds Tryz.pinned (OpenSpec.upto matrixReduceSpec)

/-- 'sosoptlaw03.MatrixSolve', WHERE WHAT IT READS IS OF BULK AT MOST 1048576: true; the input reads as it did. -/
def matrixSolveUptoRow : OpenClaim := { program := "ythilnfgnpdeofaagreatdoor", sum := "3c9b488344b69091a60e8353befbd081a200257a3fd6edb1bc3ef6228298b62c", func := "sosopt/sosoptlaw03.MatrixSolve", spec := "matrixSolve", inPlace := ["math/bits.Add64", "math/bits.Sub64"], unfollowed := true, recurses := true, named := ["math/bits.divideError", "math/bits.overflowError", "math/bits.deBruijn64tab", "internal/strconv.uint64pow10", "math/bits.deBruijn32tab"], apart := false, laid := [("math/bits.deBruijn32tab", laid_math_bits_deBruijn32tab), ("math/bits.deBruijn64tab", laid_math_bits_deBruijn64tab), ("internal/strconv.uint64pow10", laid_internal_strconv_uint64pow10)], narrowed := true }
def MatrixSolveUptoSaid : Prop := matrixSolveUptoRow.holds Tryz.pinned (OpenSpec.upto matrixSolveSpec)

/-- 'sosoptlaw03.MatrixProducts', WHERE WHAT IT READS IS OF BULK AT MOST 1048576: true; the input reads as it did. -/
def matrixProductsUptoRow : OpenClaim := { program := "ythilnfgnpdeofaagreatdoor", sum := "3c9b488344b69091a60e8353befbd081a200257a3fd6edb1bc3ef6228298b62c", func := "sosopt/sosoptlaw03.MatrixProducts", spec := "matrixProducts", inPlace := ["math/bits.Add64", "math/bits.Sub64"], unfollowed := true, recurses := true, named := ["math/bits.divideError", "math/bits.overflowError", "math/bits.deBruijn64tab", "internal/strconv.uint64pow10", "math/bits.deBruijn32tab"], apart := false, laid := [("math/bits.deBruijn32tab", laid_math_bits_deBruijn32tab), ("math/bits.deBruijn64tab", laid_math_bits_deBruijn64tab), ("internal/strconv.uint64pow10", laid_internal_strconv_uint64pow10)], narrowed := true }
def MatrixProductsUptoSaid : Prop := matrixProductsUptoRow.holds Tryz.pinned (OpenSpec.upto matrixProductsSpec)

/-- 'sosoptlaw03.MatrixInverse', WHERE WHAT IT READS IS OF BULK AT MOST 1048576: true; the input reads as it did. -/
def matrixInverseUptoRow : OpenClaim := { program := "ythilnfgnpdeofaagreatdoor", sum := "3c9b488344b69091a60e8353befbd081a200257a3fd6edb1bc3ef6228298b62c", func := "sosopt/sosoptlaw03.MatrixInverse", spec := "matrixInverse", inPlace := ["math/bits.Add64", "math/bits.Sub64"], unfollowed := true, recurses := true, named := ["math/bits.divideError", "math/bits.overflowError", "math/bits.deBruijn64tab", "internal/strconv.uint64pow10", "math/bits.deBruijn32tab"], apart := false, laid := [("math/bits.deBruijn32tab", laid_math_bits_deBruijn32tab), ("math/bits.deBruijn64tab", laid_math_bits_deBruijn64tab), ("internal/strconv.uint64pow10", laid_internal_strconv_uint64pow10)], narrowed := true }
def MatrixInverseUptoSaid : Prop := matrixInverseUptoRow.holds Tryz.pinned (OpenSpec.upto matrixInverseSpec)

/-- 'sosoptlaw03.MatrixOwn', WHERE WHAT IT READS IS OF BULK AT MOST 1048576: true; the input reads as it did. -/
def matrixOwnUptoRow : OpenClaim := { program := "ythilnfgnpdeofaagreatdoor", sum := "3c9b488344b69091a60e8353befbd081a200257a3fd6edb1bc3ef6228298b62c", func := "sosopt/sosoptlaw03.MatrixOwn", spec := "matrixOwn", inPlace := ["math/bits.Add64", "math/bits.Sub64"], unfollowed := true, recurses := true, named := ["math/bits.divideError", "math/bits.overflowError", "math/bits.deBruijn64tab", "internal/strconv.uint64pow10", "math/bits.deBruijn32tab"], apart := false, laid := [("math/bits.deBruijn32tab", laid_math_bits_deBruijn32tab), ("math/bits.deBruijn64tab", laid_math_bits_deBruijn64tab), ("internal/strconv.uint64pow10", laid_internal_strconv_uint64pow10)], narrowed := true }
def MatrixOwnUptoSaid : Prop := matrixOwnUptoRow.holds Tryz.pinned (OpenSpec.upto matrixOwnSpec)

/-- 'sosoptlaw03.MatrixRing', WHERE WHAT IT READS IS OF BULK AT MOST 1048576: true; the input reads as it did. -/
def matrixRingUptoRow : OpenClaim := { program := "ythilnfgnpdeofaagreatdoor", sum := "3c9b488344b69091a60e8353befbd081a200257a3fd6edb1bc3ef6228298b62c", func := "sosopt/sosoptlaw03.MatrixRing", spec := "matrixRing", inPlace := ["math/bits.Add64", "math/bits.Sub64"], unfollowed := true, recurses := true, named := ["math/bits.divideError", "math/bits.overflowError", "math/bits.deBruijn64tab", "internal/strconv.uint64pow10", "math/bits.deBruijn32tab"], apart := false, laid := [("math/bits.deBruijn32tab", laid_math_bits_deBruijn32tab), ("math/bits.deBruijn64tab", laid_math_bits_deBruijn64tab), ("internal/strconv.uint64pow10", laid_internal_strconv_uint64pow10)], narrowed := true }
def MatrixRingUptoSaid : Prop := matrixRingUptoRow.holds Tryz.pinned (OpenSpec.upto matrixRingSpec)

/-- 'sosoptlaw03.MatrixNew', WHERE WHAT IT READS IS OF BULK AT MOST 1048576: true; the input reads as it did. -/
def matrixNewUptoRow : OpenClaim := { program := "ythilnfgnpdeofaagreatdoor", sum := "3c9b488344b69091a60e8353befbd081a200257a3fd6edb1bc3ef6228298b62c", func := "sosopt/sosoptlaw03.MatrixNew", spec := "matrixNew", inPlace := ["math/bits.Add64", "math/bits.Sub64"], unfollowed := true, recurses := true, named := ["math/bits.divideError", "math/bits.overflowError", "math/bits.deBruijn64tab", "internal/strconv.uint64pow10", "math/bits.deBruijn32tab"], apart := false, laid := [("math/bits.deBruijn32tab", laid_math_bits_deBruijn32tab), ("math/bits.deBruijn64tab", laid_math_bits_deBruijn64tab), ("internal/strconv.uint64pow10", laid_internal_strconv_uint64pow10)], narrowed := true }
def MatrixNewUptoSaid : Prop := matrixNewUptoRow.holds Tryz.pinned (OpenSpec.upto matrixNewSpec)

/-- 'sosoptlaw03.MatrixLinear', WHERE WHAT IT READS IS OF BULK AT MOST 1048576: true; the input reads as it did. -/
def matrixLinearUptoRow : OpenClaim := { program := "ythilnfgnpdeofaagreatdoor", sum := "3c9b488344b69091a60e8353befbd081a200257a3fd6edb1bc3ef6228298b62c", func := "sosopt/sosoptlaw03.MatrixLinear", spec := "matrixLinear", inPlace := ["math/bits.Add64", "math/bits.Sub64"], unfollowed := true, recurses := true, named := ["math/bits.divideError", "math/bits.overflowError", "math/bits.deBruijn64tab", "internal/strconv.uint64pow10", "math/bits.deBruijn32tab"], apart := false, laid := [("math/bits.deBruijn32tab", laid_math_bits_deBruijn32tab), ("math/bits.deBruijn64tab", laid_math_bits_deBruijn64tab), ("internal/strconv.uint64pow10", laid_internal_strconv_uint64pow10)], narrowed := true }
def MatrixLinearUptoSaid : Prop := matrixLinearUptoRow.holds Tryz.pinned (OpenSpec.upto matrixLinearSpec)

/-- 'sosoptlaw03.MatrixFactors', WHERE WHAT IT READS IS OF BULK AT MOST 1048576: true; the input reads as it did. -/
def matrixFactorsUptoRow : OpenClaim := { program := "ythilnfgnpdeofaagreatdoor", sum := "3c9b488344b69091a60e8353befbd081a200257a3fd6edb1bc3ef6228298b62c", func := "sosopt/sosoptlaw03.MatrixFactors", spec := "matrixFactors", inPlace := ["math/bits.Add64", "math/bits.Sub64"], unfollowed := true, recurses := true, named := ["math/bits.divideError", "math/bits.overflowError", "math/bits.deBruijn64tab", "internal/strconv.uint64pow10", "math/bits.deBruijn32tab"], apart := false, laid := [("math/bits.deBruijn32tab", laid_math_bits_deBruijn32tab), ("math/bits.deBruijn64tab", laid_math_bits_deBruijn64tab), ("internal/strconv.uint64pow10", laid_internal_strconv_uint64pow10)], narrowed := true }
def MatrixFactorsUptoSaid : Prop := matrixFactorsUptoRow.holds Tryz.pinned (OpenSpec.upto matrixFactorsSpec)

/-- 'sosoptlaw03.MatrixDeterminant', WHERE WHAT IT READS IS OF BULK AT MOST 1048576: true; the input reads as it did. -/
def matrixDeterminantUptoRow : OpenClaim := { program := "ythilnfgnpdeofaagreatdoor", sum := "3c9b488344b69091a60e8353befbd081a200257a3fd6edb1bc3ef6228298b62c", func := "sosopt/sosoptlaw03.MatrixDeterminant", spec := "matrixDeterminant", inPlace := ["math/bits.Add64", "math/bits.Sub64"], unfollowed := true, recurses := true, named := ["math/bits.divideError", "math/bits.overflowError", "math/bits.deBruijn64tab", "internal/strconv.uint64pow10", "math/bits.deBruijn32tab"], apart := false, laid := [("math/bits.deBruijn32tab", laid_math_bits_deBruijn32tab), ("math/bits.deBruijn64tab", laid_math_bits_deBruijn64tab), ("internal/strconv.uint64pow10", laid_internal_strconv_uint64pow10)], narrowed := true }
def MatrixDeterminantUptoSaid : Prop := matrixDeterminantUptoRow.holds Tryz.pinned (OpenSpec.upto matrixDeterminantSpec)

end Rows
end Go.Proofs.YthilnfgnpdeofaaGreatDoor
