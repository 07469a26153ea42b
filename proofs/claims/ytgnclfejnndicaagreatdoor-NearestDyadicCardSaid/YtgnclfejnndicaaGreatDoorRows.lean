/-
  NARROWER THAN 'FOR EVERY INPUT', by the rows' own cells (each row's printed sentence says how): NearestSimplest: laid · NearestLeast: laid · NearestConverges: laid · NearestQuotients: laid · NearestDyadic: laid · NearestBest: laid · NearestOwn: laid · NearestProjects: laid · NearestProjected: laid · NearestRefuses: laid.
  DERIVED. THE GIVEN ROWS OF THIS SEAT. 10 by the template 'for every input the law returns true; each argument reads behind the call as it read before'; 0 by the template 'total and deterministic' (their statements: YtgnclfejnndicaaGreatDoorTotals.lean).
  GIVEN WITH THE SEED: the statements are not yours to turn. If you find one false, say at which input.
  Laid BY PROGRAM, IN A SANDBOX (cutbox-rows.mjs): the forced cells as the released guide's own fill.sh prints them over the translation 38bb94ef09a5f121… (all of the seat's roots in one cut). By AI agents, Wed Nov 11 2026. No macro, syntax, notation, axiom, sorry.
-/
import Derived.Test.YtgnclfejnndicaaGreatDoorChecked
import GoSem.Claim
import GoSem.ClaimJoined
import GoSem.ClaimMapViews
import Derived.JoinedTies
import Derived.KernelRfl
namespace Go.Proofs.YtgnclfejnndicaaGreatDoor
/- THE CELL 'sum', in the pinned program and in every row, IS THE sha256 OF THE DUMP (.gsa) THAT YtgnclfejnndicaaGreatDoorProg.lean LOADS. Nothing in Lean hashes anything: it is a label: what it is worth is what the hold of that sum in a sandbox is worth. -/
noncomputable def Tryz.pinned : Pinned := { name := "ytgnclfejnndicaagreatdoor", sum := "38bb94ef09a5f1213e03450819dbb1e99522fe76638ebda3eb98f5589e0c2417", checked := Tryz.checked }
namespace Rows
def none {H : Type} : Left H := { results := [], args := [] }

/- WHAT THE LISTED PACKAGE-LEVEL VARIABLES READ AS WHEN THE CALL BEGINS. Each datum BY PROGRAM (the guide's laid-datum.mjs) off the statement by which the dump's own 'gosem.cut.vars' lays the variable. In a bare row this is a premise. The card (YtgnclfejnndicaaGreatDoorCards.lean) ties it to the program's text. -/
def laid_math_bits_deBruijn32tab {H : Type} : DataW H := .agg [.lit (.int .u8 0), .lit (.int .u8 1), .lit (.int .u8 28), .lit (.int .u8 2), .lit (.int .u8 29), .lit (.int .u8 14), .lit (.int .u8 24), .lit (.int .u8 3), .lit (.int .u8 30), .lit (.int .u8 22), .lit (.int .u8 20), .lit (.int .u8 15), .lit (.int .u8 25), .lit (.int .u8 17), .lit (.int .u8 4), .lit (.int .u8 8), .lit (.int .u8 31), .lit (.int .u8 27), .lit (.int .u8 13), .lit (.int .u8 23), .lit (.int .u8 21), .lit (.int .u8 19), .lit (.int .u8 16), .lit (.int .u8 7), .lit (.int .u8 26), .lit (.int .u8 12), .lit (.int .u8 18), .lit (.int .u8 6), .lit (.int .u8 11), .lit (.int .u8 5), .lit (.int .u8 10), .lit (.int .u8 9)]
def laid_math_bits_deBruijn64tab {H : Type} : DataW H := .agg [.lit (.int .u8 0), .lit (.int .u8 1), .lit (.int .u8 56), .lit (.int .u8 2), .lit (.int .u8 57), .lit (.int .u8 49), .lit (.int .u8 28), .lit (.int .u8 3), .lit (.int .u8 61), .lit (.int .u8 58), .lit (.int .u8 42), .lit (.int .u8 50), .lit (.int .u8 38), .lit (.int .u8 29), .lit (.int .u8 17), .lit (.int .u8 4), .lit (.int .u8 62), .lit (.int .u8 47), .lit (.int .u8 59), .lit (.int .u8 36), .lit (.int .u8 45), .lit (.int .u8 43), .lit (.int .u8 51), .lit (.int .u8 22), .lit (.int .u8 53), .lit (.int .u8 39), .lit (.int .u8 33), .lit (.int .u8 30), .lit (.int .u8 24), .lit (.int .u8 18), .lit (.int .u8 12), .lit (.int .u8 5), .lit (.int .u8 63), .lit (.int .u8 55), .lit (.int .u8 48), .lit (.int .u8 27), .lit (.int .u8 60), .lit (.int .u8 41), .lit (.int .u8 37), .lit (.int .u8 16), .lit (.int .u8 46), .lit (.int .u8 35), .lit (.int .u8 44), .lit (.int .u8 21), .lit (.int .u8 52), .lit (.int .u8 32), .lit (.int .u8 23), .lit (.int .u8 11), .lit (.int .u8 54), .lit (.int .u8 26), .lit (.int .u8 40), .lit (.int .u8 15), .lit (.int .u8 34), .lit (.int .u8 20), .lit (.int .u8 31), .lit (.int .u8 10), .lit (.int .u8 25), .lit (.int .u8 14), .lit (.int .u8 19), .lit (.int .u8 9), .lit (.int .u8 13), .lit (.int .u8 8), .lit (.int .u8 7), .lit (.int .u8 6)]
def laid_internal_strconv_uint64pow10 {H : Type} : DataW H := .agg [.lit (.int .u64 1), .lit (.int .u64 10), .lit (.int .u64 100), .lit (.int .u64 1000), .lit (.int .u64 10000), .lit (.int .u64 100000), .lit (.int .u64 1000000), .lit (.int .u64 10000000), .lit (.int .u64 100000000), .lit (.int .u64 1000000000), .lit (.int .u64 10000000000), .lit (.int .u64 100000000000), .lit (.int .u64 1000000000000), .lit (.int .u64 10000000000000), .lit (.int .u64 100000000000000), .lit (.int .u64 1000000000000000), .lit (.int .u64 10000000000000000), .lit (.int .u64 100000000000000000), .lit (.int .u64 1000000000000000000), .lit (.int .u64 10000000000000000000)]

/-- 'sosoptlaw28.NearestSimplest': WHATEVER THE INPUT: true; the input reads as it did. -/
def nearestSimplestSpec : ChangeSpec := { name := "nearestSimplest", fn := fun _ => fun
  | [d1, d2] => { results := [.lit (.bool true)], args := [d1, d2] }
  | _ => none }
def nearestSimplestRow : OpenClaim := { program := "ytgnclfejnndicaagreatdoor", sum := "38bb94ef09a5f1213e03450819dbb1e99522fe76638ebda3eb98f5589e0c2417", func := "sosopt/sosoptlaw28.NearestSimplest", spec := "nearestSimplest", inPlace := ["math/bits.Add64", "math/bits.Sub64"], recurses := true, named := ["math/bits.divideError", "math/bits.overflowError", "math/bits.deBruijn64tab", "internal/strconv.uint64pow10", "math/bits.deBruijn32tab"], apart := false, laid := [("math/bits.deBruijn32tab", laid_math_bits_deBruijn32tab), ("math/bits.deBruijn64tab", laid_math_bits_deBruijn64tab), ("internal/strconv.uint64pow10", laid_internal_strconv_uint64pow10)] }
def NearestSimplestSaid : Prop := nearestSimplestRow.holds Tryz.pinned (OpenSpec.ofChange nearestSimplestSpec)

/-- ITS FALSE NEIGHBOUR: 'it returns false'. Refute it at one input. -/
def nearestSimplestWrong : ChangeSpec := { name := "nearestSimplest", fn := fun _ => fun
  | [d1, d2] => { results := [.lit (.bool false)], args := [d1, d2] }
  | _ => none }
def NearestSimplestWrongFalsely : Prop := nearestSimplestRow.holds Tryz.pinned (OpenSpec.ofChange nearestSimplestWrong)

/-- 'sosoptlaw28.NearestLeast': WHATEVER THE INPUT: true; the input reads as it did. -/
def nearestLeastSpec : ChangeSpec := { name := "nearestLeast", fn := fun _ => fun
  | [d] => { results := [.lit (.bool true)], args := [d] }
  | _ => none }
def nearestLeastRow : OpenClaim := { program := "ytgnclfejnndicaagreatdoor", sum := "38bb94ef09a5f1213e03450819dbb1e99522fe76638ebda3eb98f5589e0c2417", func := "sosopt/sosoptlaw28.NearestLeast", spec := "nearestLeast", inPlace := ["math/bits.Add64", "math/bits.Sub64"], recurses := true, named := ["math/bits.divideError", "math/bits.overflowError", "math/bits.deBruijn64tab", "internal/strconv.uint64pow10", "math/bits.deBruijn32tab"], apart := false, laid := [("math/bits.deBruijn32tab", laid_math_bits_deBruijn32tab), ("math/bits.deBruijn64tab", laid_math_bits_deBruijn64tab), ("internal/strconv.uint64pow10", laid_internal_strconv_uint64pow10)] }
def NearestLeastSaid : Prop := nearestLeastRow.holds Tryz.pinned (OpenSpec.ofChange nearestLeastSpec)

/-- ITS FALSE NEIGHBOUR: 'it returns false'. Refute it at one input. -/
def nearestLeastWrong : ChangeSpec := { name := "nearestLeast", fn := fun _ => fun
  | [d] => { results := [.lit (.bool false)], args := [d] }
  | _ => none }
def NearestLeastWrongFalsely : Prop := nearestLeastRow.holds Tryz.pinned (OpenSpec.ofChange nearestLeastWrong)

/-- 'sosoptlaw28.NearestConverges': WHATEVER THE INPUT: true; the input reads as it did. -/
def nearestConvergesSpec : ChangeSpec := { name := "nearestConverges", fn := fun _ => fun
  | [d1, d2] => { results := [.lit (.bool true)], args := [d1, d2] }
  | _ => none }
def nearestConvergesRow : OpenClaim := { program := "ytgnclfejnndicaagreatdoor", sum := "38bb94ef09a5f1213e03450819dbb1e99522fe76638ebda3eb98f5589e0c2417", func := "sosopt/sosoptlaw28.NearestConverges", spec := "nearestConverges", inPlace := ["math/bits.Add64", "math/bits.Sub64"], recurses := true, named := ["math/bits.divideError", "math/bits.overflowError", "math/bits.deBruijn64tab", "internal/strconv.uint64pow10", "math/bits.deBruijn32tab"], apart := false, laid := [("math/bits.deBruijn32tab", laid_math_bits_deBruijn32tab), ("math/bits.deBruijn64tab", laid_math_bits_deBruijn64tab), ("internal/strconv.uint64pow10", laid_internal_strconv_uint64pow10)] }
def NearestConvergesSaid : Prop := nearestConvergesRow.holds Tryz.pinned (OpenSpec.ofChange nearestConvergesSpec)

/-- ITS FALSE NEIGHBOUR: 'it returns false'. Refute it at one input. -/
def nearestConvergesWrong : ChangeSpec := { name := "nearestConverges", fn := fun _ => fun
  | [d1, d2] => { results := [.lit (.bool false)], args := [d1, d2] }
  | _ => none }
def NearestConvergesWrongFalsely : Prop := nearestConvergesRow.holds Tryz.pinned (OpenSpec.ofChange nearestConvergesWrong)

/-- 'sosoptlaw28.NearestQuotients': WHATEVER THE INPUT: true; the input reads as it did. -/
def nearestQuotientsSpec : ChangeSpec := { name := "nearestQuotients", fn := fun _ => fun
  | [d] => { results := [.lit (.bool true)], args := [d] }
  | _ => none }
def nearestQuotientsRow : OpenClaim := { program := "ytgnclfejnndicaagreatdoor", sum := "38bb94ef09a5f1213e03450819dbb1e99522fe76638ebda3eb98f5589e0c2417", func := "sosopt/sosoptlaw28.NearestQuotients", spec := "nearestQuotients", inPlace := ["math/bits.Add64", "math/bits.Sub64"], recurses := true, named := ["math/bits.divideError", "math/bits.overflowError", "math/bits.deBruijn64tab", "internal/strconv.uint64pow10", "math/bits.deBruijn32tab"], apart := false, laid := [("math/bits.deBruijn32tab", laid_math_bits_deBruijn32tab), ("math/bits.deBruijn64tab", laid_math_bits_deBruijn64tab), ("internal/strconv.uint64pow10", laid_internal_strconv_uint64pow10)] }
def NearestQuotientsSaid : Prop := nearestQuotientsRow.holds Tryz.pinned (OpenSpec.ofChange nearestQuotientsSpec)

/-- ITS FALSE NEIGHBOUR: 'it returns false'. Refute it at one input. -/
def nearestQuotientsWrong : ChangeSpec := { name := "nearestQuotients", fn := fun _ => fun
  | [d] => { results := [.lit (.bool false)], args := [d] }
  | _ => none }
def NearestQuotientsWrongFalsely : Prop := nearestQuotientsRow.holds Tryz.pinned (OpenSpec.ofChange nearestQuotientsWrong)

/-- 'sosoptlaw28.NearestDyadic': WHATEVER THE INPUT: true; the input reads as it did. -/
def nearestDyadicSpec : ChangeSpec := { name := "nearestDyadic", fn := fun _ => fun
  | [d1, d2] => { results := [.lit (.bool true)], args := [d1, d2] }
  | _ => none }
def nearestDyadicRow : OpenClaim := { program := "ytgnclfejnndicaagreatdoor", sum := "38bb94ef09a5f1213e03450819dbb1e99522fe76638ebda3eb98f5589e0c2417", func := "sosopt/sosoptlaw28.NearestDyadic", spec := "nearestDyadic", inPlace := ["math/bits.Add64", "math/bits.Sub64"], recurses := true, named := ["math/bits.divideError", "math/bits.overflowError", "math/bits.deBruijn64tab", "internal/strconv.uint64pow10", "math/bits.deBruijn32tab"], apart := false, laid := [("math/bits.deBruijn32tab", laid_math_bits_deBruijn32tab), ("math/bits.deBruijn64tab", laid_math_bits_deBruijn64tab), ("internal/strconv.uint64pow10", laid_internal_strconv_uint64pow10)] }
def NearestDyadicSaid : Prop := nearestDyadicRow.holds Tryz.pinned (OpenSpec.ofChange nearestDyadicSpec)

/-- ITS FALSE NEIGHBOUR: 'it returns false'. Refute it at one input. -/
def nearestDyadicWrong : ChangeSpec := { name := "nearestDyadic", fn := fun _ => fun
  | [d1, d2] => { results := [.lit (.bool false)], args := [d1, d2] }
  | _ => none }
def NearestDyadicWrongFalsely : Prop := nearestDyadicRow.holds Tryz.pinned (OpenSpec.ofChange nearestDyadicWrong)

/-- 'sosoptlaw28.NearestBest': WHATEVER THE INPUT: true; the input reads as it did. -/
def nearestBestSpec : ChangeSpec := { name := "nearestBest", fn := fun _ => fun
  | [d1, d2, d3] => { results := [.lit (.bool true)], args := [d1, d2, d3] }
  | _ => none }
def nearestBestRow : OpenClaim := { program := "ytgnclfejnndicaagreatdoor", sum := "38bb94ef09a5f1213e03450819dbb1e99522fe76638ebda3eb98f5589e0c2417", func := "sosopt/sosoptlaw28.NearestBest", spec := "nearestBest", inPlace := ["math/bits.Add64", "math/bits.Sub64", "internal/bytealg.IndexByteString", "internal/bytealg.IndexString"], unfollowed := true, recurses := true, named := ["math/bits.divideError", "math/bits.overflowError", "math/bits.deBruijn64tab", "internal/strconv.uint64pow10", "math/bits.deBruijn32tab", "internal/bytealg.MaxLen"], apart := false, laid := [("math/bits.deBruijn32tab", laid_math_bits_deBruijn32tab), ("math/bits.deBruijn64tab", laid_math_bits_deBruijn64tab), ("internal/strconv.uint64pow10", laid_internal_strconv_uint64pow10)] }
def NearestBestSaid : Prop := nearestBestRow.holds Tryz.pinned (OpenSpec.ofChange nearestBestSpec)

/-- ITS FALSE NEIGHBOUR: 'it returns false'. Refute it at one input. -/
def nearestBestWrong : ChangeSpec := { name := "nearestBest", fn := fun _ => fun
  | [d1, d2, d3] => { results := [.lit (.bool false)], args := [d1, d2, d3] }
  | _ => none }
def NearestBestWrongFalsely : Prop := nearestBestRow.holds Tryz.pinned (OpenSpec.ofChange nearestBestWrong)

/-- 'sosoptlaw28.NearestOwn': WHATEVER THE INPUT: true; the input reads as it did. -/
def nearestOwnSpec : ChangeSpec := { name := "nearestOwn", fn := fun _ => fun
  | [d1, d2, d3, d4] => { results := [.lit (.bool true)], args := [d1, d2, d3, d4] }
  | _ => none }
def nearestOwnRow : OpenClaim := { program := "ytgnclfejnndicaagreatdoor", sum := "38bb94ef09a5f1213e03450819dbb1e99522fe76638ebda3eb98f5589e0c2417", func := "sosopt/sosoptlaw28.NearestOwn", spec := "nearestOwn", inPlace := ["math/bits.Add64", "math/bits.Sub64", "internal/bytealg.IndexByteString", "internal/bytealg.IndexString"], unfollowed := true, recurses := true, named := ["math/bits.divideError", "math/bits.overflowError", "math/bits.deBruijn64tab", "internal/strconv.uint64pow10", "math/bits.deBruijn32tab", "internal/bytealg.MaxLen"], apart := false, laid := [("math/bits.deBruijn32tab", laid_math_bits_deBruijn32tab), ("math/bits.deBruijn64tab", laid_math_bits_deBruijn64tab), ("internal/strconv.uint64pow10", laid_internal_strconv_uint64pow10)] }
def NearestOwnSaid : Prop := nearestOwnRow.holds Tryz.pinned (OpenSpec.ofChange nearestOwnSpec)

/-- ITS FALSE NEIGHBOUR: 'it returns false'. Refute it at one input. -/
def nearestOwnWrong : ChangeSpec := { name := "nearestOwn", fn := fun _ => fun
  | [d1, d2, d3, d4] => { results := [.lit (.bool false)], args := [d1, d2, d3, d4] }
  | _ => none }
def NearestOwnWrongFalsely : Prop := nearestOwnRow.holds Tryz.pinned (OpenSpec.ofChange nearestOwnWrong)

/-- 'sosoptlaw28.NearestProjects': WHATEVER THE INPUT: true; the input reads as it did. -/
def nearestProjectsSpec : ChangeSpec := { name := "nearestProjects", fn := fun _ => fun
  | [d1, d2, d3] => { results := [.lit (.bool true)], args := [d1, d2, d3] }
  | _ => none }
def nearestProjectsRow : OpenClaim := { program := "ytgnclfejnndicaagreatdoor", sum := "38bb94ef09a5f1213e03450819dbb1e99522fe76638ebda3eb98f5589e0c2417", func := "sosopt/sosoptlaw28.NearestProjects", spec := "nearestProjects", inPlace := ["math/bits.Add64", "math/bits.Sub64"], unfollowed := true, recurses := true, named := ["math/bits.divideError", "math/bits.overflowError", "math/bits.deBruijn64tab", "internal/strconv.uint64pow10", "math/bits.deBruijn32tab"], apart := false, laid := [("math/bits.deBruijn32tab", laid_math_bits_deBruijn32tab), ("math/bits.deBruijn64tab", laid_math_bits_deBruijn64tab), ("internal/strconv.uint64pow10", laid_internal_strconv_uint64pow10)] }
def NearestProjectsSaid : Prop := nearestProjectsRow.holds Tryz.pinned (OpenSpec.ofChange nearestProjectsSpec)

/-- ITS FALSE NEIGHBOUR: 'it returns false'. Refute it at one input. -/
def nearestProjectsWrong : ChangeSpec := { name := "nearestProjects", fn := fun _ => fun
  | [d1, d2, d3] => { results := [.lit (.bool false)], args := [d1, d2, d3] }
  | _ => none }
def NearestProjectsWrongFalsely : Prop := nearestProjectsRow.holds Tryz.pinned (OpenSpec.ofChange nearestProjectsWrong)

/-- 'sosoptlaw28.NearestProjected': WHATEVER THE INPUT: true; the input reads as it did. -/
def nearestProjectedSpec : ChangeSpec := { name := "nearestProjected", fn := fun _ => fun
  | [d] => { results := [.lit (.bool true)], args := [d] }
  | _ => none }
def nearestProjectedRow : OpenClaim := { program := "ytgnclfejnndicaagreatdoor", sum := "38bb94ef09a5f1213e03450819dbb1e99522fe76638ebda3eb98f5589e0c2417", func := "sosopt/sosoptlaw28.NearestProjected", spec := "nearestProjected", inPlace := ["math/bits.Add64", "math/bits.Sub64"], unfollowed := true, recurses := true, named := ["math/bits.divideError", "math/bits.overflowError", "math/bits.deBruijn64tab", "internal/strconv.uint64pow10", "math/bits.deBruijn32tab"], apart := false, laid := [("math/bits.deBruijn32tab", laid_math_bits_deBruijn32tab), ("math/bits.deBruijn64tab", laid_math_bits_deBruijn64tab), ("internal/strconv.uint64pow10", laid_internal_strconv_uint64pow10)] }
def NearestProjectedSaid : Prop := nearestProjectedRow.holds Tryz.pinned (OpenSpec.ofChange nearestProjectedSpec)

/-- ITS FALSE NEIGHBOUR: 'it returns false'. Refute it at one input. -/
def nearestProjectedWrong : ChangeSpec := { name := "nearestProjected", fn := fun _ => fun
  | [d] => { results := [.lit (.bool false)], args := [d] }
  | _ => none }
def NearestProjectedWrongFalsely : Prop := nearestProjectedRow.holds Tryz.pinned (OpenSpec.ofChange nearestProjectedWrong)

/-- 'sosoptlaw28.NearestRefuses': WHATEVER THE INPUT: true; the input reads as it did. -/
def nearestRefusesSpec : ChangeSpec := { name := "nearestRefuses", fn := fun _ => fun
  | [d1, d2, d3, d4] => { results := [.lit (.bool true)], args := [d1, d2, d3, d4] }
  | _ => none }
def nearestRefusesRow : OpenClaim := { program := "ytgnclfejnndicaagreatdoor", sum := "38bb94ef09a5f1213e03450819dbb1e99522fe76638ebda3eb98f5589e0c2417", func := "sosopt/sosoptlaw28.NearestRefuses", spec := "nearestRefuses", inPlace := ["math/bits.Add64", "math/bits.Sub64"], unfollowed := true, recurses := true, named := ["math/bits.divideError", "math/bits.overflowError", "math/bits.deBruijn64tab", "internal/strconv.uint64pow10", "math/bits.deBruijn32tab"], apart := false, laid := [("math/bits.deBruijn32tab", laid_math_bits_deBruijn32tab), ("math/bits.deBruijn64tab", laid_math_bits_deBruijn64tab), ("internal/strconv.uint64pow10", laid_internal_strconv_uint64pow10)] }
def NearestRefusesSaid : Prop := nearestRefusesRow.holds Tryz.pinned (OpenSpec.ofChange nearestRefusesSpec)

/-- ITS FALSE NEIGHBOUR: 'it returns false'. Refute it at one input. -/
def nearestRefusesWrong : ChangeSpec := { name := "nearestRefuses", fn := fun _ => fun
  | [d1, d2, d3, d4] => { results := [.lit (.bool false)], args := [d1, d2, d3, d4] }
  | _ => none }
def NearestRefusesWrongFalsely : Prop := nearestRefusesRow.holds Tryz.pinned (OpenSpec.ofChange nearestRefusesWrong)

/- THE SECOND FORM. 'bulk': how many values and letters a reading holds, each counted each time it is reached (what is shared counts as often as it is met; a slice's spare places count too). A statement '..UptoSaid' is the law's where the arguments, and the package variables that the reading takes, are together of bulk at most 1048576: NARROWER than '..Said'. Prove '..Said' where nothing that the law and all that it calls make is longer than what came in: it says more and counts as full. Else prove '..UptoSaid'. A law counts once. -/
mutual
def uptoBulk {H : Type} : DataW H → Nat
  | .lit (.string bytes) => bytes.length + 1
  | .lit _ => 1
  | .nil => 1
  | .ptr d => uptoBulk d + 1
  | .slice elems spare => uptoBulkAll elems + uptoBulkAll spare + 1
  | .agg parts => uptoBulkAll parts + 1
  | .iface _ d => uptoBulk d + 1
  | .map entries => uptoBulkEntries entries + 1
  | .held _ => 1
def uptoBulkAll {H : Type} : List (DataW H) → Nat
  | [] => 0
  | d :: r => uptoBulk d + uptoBulkAll r
def uptoBulkEntries {H : Type} : List (Lit × DataW H) → Nat
  | [] => 0
  | x :: r => uptoBulkEntry x + uptoBulkEntries r
def uptoBulkEntry {H : Type} : Lit × DataW H → Nat
  | (.string bytes, d) => bytes.length + uptoBulk d + 1
  | (_, d) => uptoBulk d + 1
 end
def uptoSmall : (H : Type) → List (DataW H) → Bool := fun _ ds => decide (uptoBulkAll ds ≤ 1048576)
def OpenSpec.upto (s : _root_.Go.ChangeSpec) : _root_.Go.OpenSpec := { _root_.Go.OpenSpec.ofChange s with cond := some uptoSmall }

/-- 'sosoptlaw28.NearestSimplest', WHERE WHAT IT READS IS OF BULK AT MOST 1048576: true; the input reads as it did. -/
def nearestSimplestUptoRow : OpenClaim := { program := "ytgnclfejnndicaagreatdoor", sum := "38bb94ef09a5f1213e03450819dbb1e99522fe76638ebda3eb98f5589e0c2417", func := "sosopt/sosoptlaw28.NearestSimplest", spec := "nearestSimplest", inPlace := ["math/bits.Add64", "math/bits.Sub64"], recurses := true, named := ["math/bits.divideError", "math/bits.overflowError", "math/bits.deBruijn64tab", "internal/strconv.uint64pow10", "math/bits.deBruijn32tab"], apart := false, laid := [("math/bits.deBruijn32tab", laid_math_bits_deBruijn32tab), ("math/bits.deBruijn64tab", laid_math_bits_deBruijn64tab), ("internal/strconv.uint64pow10", laid_internal_strconv_uint64pow10)], narrowed := true }
def NearestSimplestUptoSaid : Prop := nearestSimplestUptoRow.holds Tryz.pinned (OpenSpec.upto nearestSimplestSpec)

/-- 'sosoptlaw28.NearestLeast', WHERE WHAT IT READS IS OF BULK AT MOST 1048576: true; the input reads as it did. -/
def nearestLeastUptoRow : OpenClaim := { program := "ytgnclfejnndicaagreatdoor", sum := "38bb94ef09a5f1213e03450819dbb1e99522fe76638ebda3eb98f5589e0c2417", func := "sosopt/sosoptlaw28.NearestLeast", spec := "nearestLeast", inPlace := ["math/bits.Add64", "math/bits.Sub64"], recurses := true, named := ["math/bits.divideError", "math/bits.overflowError", "math/bits.deBruijn64tab", "internal/strconv.uint64pow10", "math/bits.deBruijn32tab"], apart := false, laid := [("math/bits.deBruijn32tab", laid_math_bits_deBruijn32tab), ("math/bits.deBruijn64tab", laid_math_bits_deBruijn64tab), ("internal/strconv.uint64pow10", laid_internal_strconv_uint64pow10)], narrowed := true }
def NearestLeastUptoSaid : Prop := nearestLeastUptoRow.holds Tryz.pinned (OpenSpec.upto nearestLeastSpec)

/-- 'sosoptlaw28.NearestConverges', WHERE WHAT IT READS IS OF BULK AT MOST 1048576: true; the input reads as it did. -/
def nearestConvergesUptoRow : OpenClaim := { program := "ytgnclfejnndicaagreatdoor", sum := "38bb94ef09a5f1213e03450819dbb1e99522fe76638ebda3eb98f5589e0c2417", func := "sosopt/sosoptlaw28.NearestConverges", spec := "nearestConverges", inPlace := ["math/bits.Add64", "math/bits.Sub64"], recurses := true, named := ["math/bits.divideError", "math/bits.overflowError", "math/bits.deBruijn64tab", "internal/strconv.uint64pow10", "math/bits.deBruijn32tab"], apart := false, laid := [("math/bits.deBruijn32tab", laid_math_bits_deBruijn32tab), ("math/bits.deBruijn64tab", laid_math_bits_deBruijn64tab), ("internal/strconv.uint64pow10", laid_internal_strconv_uint64pow10)], narrowed := true }
def NearestConvergesUptoSaid : Prop := nearestConvergesUptoRow.holds Tryz.pinned (OpenSpec.upto nearestConvergesSpec)

/-- 'sosoptlaw28.NearestQuotients', WHERE WHAT IT READS IS OF BULK AT MOST 1048576: true; the input reads as it did. -/
def nearestQuotientsUptoRow : OpenClaim := { program := "ytgnclfejnndicaagreatdoor", sum := "38bb94ef09a5f1213e03450819dbb1e99522fe76638ebda3eb98f5589e0c2417", func := "sosopt/sosoptlaw28.NearestQuotients", spec := "nearestQuotients", inPlace := ["math/bits.Add64", "math/bits.Sub64"], recurses := true, named := ["math/bits.divideError", "math/bits.overflowError", "math/bits.deBruijn64tab", "internal/strconv.uint64pow10", "math/bits.deBruijn32tab"], apart := false, laid := [("math/bits.deBruijn32tab", laid_math_bits_deBruijn32tab), ("math/bits.deBruijn64tab", laid_math_bits_deBruijn64tab), ("internal/strconv.uint64pow10", laid_internal_strconv_uint64pow10)], narrowed := true }
def NearestQuotientsUptoSaid : Prop := nearestQuotientsUptoRow.holds Tryz.pinned (OpenSpec.upto nearestQuotientsSpec)

/-- 'sosoptlaw28.NearestDyadic', WHERE WHAT IT READS IS OF BULK AT MOST 1048576: true; the input reads as it did. -/
def nearestDyadicUptoRow : OpenClaim := { program := "ytgnclfejnndicaagreatdoor", sum := "38bb94ef09a5f1213e03450819dbb1e99522fe76638ebda3eb98f5589e0c2417", func := "sosopt/sosoptlaw28.NearestDyadic", spec := "nearestDyadic", inPlace := ["math/bits.Add64", "math/bits.Sub64"], recurses := true, named := ["math/bits.divideError", "math/bits.overflowError", "math/bits.deBruijn64tab", "internal/strconv.uint64pow10", "math/bits.deBruijn32tab"], apart := false, laid := [("math/bits.deBruijn32tab", laid_math_bits_deBruijn32tab), ("math/bits.deBruijn64tab", laid_math_bits_deBruijn64tab), ("internal/strconv.uint64pow10", laid_internal_strconv_uint64pow10)], narrowed := true }
def NearestDyadicUptoSaid : Prop := nearestDyadicUptoRow.holds Tryz.pinned (OpenSpec.upto nearestDyadicSpec)

/-- 'sosoptlaw28.NearestBest', WHERE WHAT IT READS IS OF BULK AT MOST 1048576: true; the input reads as it did. -/
def nearestBestUptoRow : OpenClaim := { program := "ytgnclfejnndicaagreatdoor", sum := "38bb94ef09a5f1213e03450819dbb1e99522fe76638ebda3eb98f5589e0c2417", func := "sosopt/sosoptlaw28.NearestBest", spec := "nearestBest", inPlace := ["math/bits.Add64", "math/bits.Sub64", "internal/bytealg.IndexByteString", "internal/bytealg.IndexString"], unfollowed := true, recurses := true, named := ["math/bits.divideError", "math/bits.overflowError", "math/bits.deBruijn64tab", "internal/strconv.uint64pow10", "math/bits.deBruijn32tab", "internal/bytealg.MaxLen"], apart := false, laid := [("math/bits.deBruijn32tab", laid_math_bits_deBruijn32tab), ("math/bits.deBruijn64tab", laid_math_bits_deBruijn64tab), ("internal/strconv.uint64pow10", laid_internal_strconv_uint64pow10)], narrowed := true }
def NearestBestUptoSaid : Prop := nearestBestUptoRow.holds Tryz.pinned (OpenSpec.upto nearestBestSpec)

/-- 'sosoptlaw28.NearestOwn', WHERE WHAT IT READS IS OF BULK AT MOST 1048576: true; the input reads as it did. -/
def nearestOwnUptoRow : OpenClaim := { program := "ytgnclfejnndicaagreatdoor", sum := "38bb94ef09a5f1213e03450819dbb1e99522fe76638ebda3eb98f5589e0c2417", func := "sosopt/sosoptlaw28.NearestOwn", spec := "nearestOwn", inPlace := ["math/bits.Add64", "math/bits.Sub64", "internal/bytealg.IndexByteString", "internal/bytealg.IndexString"], unfollowed := true, recurses := true, named := ["math/bits.divideError", "math/bits.overflowError", "math/bits.deBruijn64tab", "internal/strconv.uint64pow10", "math/bits.deBruijn32tab", "internal/bytealg.MaxLen"], apart := false, laid := [("math/bits.deBruijn32tab", laid_math_bits_deBruijn32tab), ("math/bits.deBruijn64tab", laid_math_bits_deBruijn64tab), ("internal/strconv.uint64pow10", laid_internal_strconv_uint64pow10)], narrowed := true }
def NearestOwnUptoSaid : Prop := nearestOwnUptoRow.holds Tryz.pinned (OpenSpec.upto nearestOwnSpec)

/-- 'sosoptlaw28.NearestProjects', WHERE WHAT IT READS IS OF BULK AT MOST 1048576: true; the input reads as it did. -/
def nearestProjectsUptoRow : OpenClaim := { program := "ytgnclfejnndicaagreatdoor", sum := "38bb94ef09a5f1213e03450819dbb1e99522fe76638ebda3eb98f5589e0c2417", func := "sosopt/sosoptlaw28.NearestProjects", spec := "nearestProjects", inPlace := ["math/bits.Add64", "math/bits.Sub64"], unfollowed := true, recurses := true, named := ["math/bits.divideError", "math/bits.overflowError", "math/bits.deBruijn64tab", "internal/strconv.uint64pow10", "math/bits.deBruijn32tab"], apart := false, laid := [("math/bits.deBruijn32tab", laid_math_bits_deBruijn32tab), ("math/bits.deBruijn64tab", laid_math_bits_deBruijn64tab), ("internal/strconv.uint64pow10", laid_internal_strconv_uint64pow10)], narrowed := true }
def NearestProjectsUptoSaid : Prop := nearestProjectsUptoRow.holds Tryz.pinned (OpenSpec.upto nearestProjectsSpec)

/-- 'sosoptlaw28.NearestProjected', WHERE WHAT IT READS IS OF BULK AT MOST 1048576: true; the input reads as it did. -/
def nearestProjectedUptoRow : OpenClaim := { program := "ytgnclfejnndicaagreatdoor", sum := "38bb94ef09a5f1213e03450819dbb1e99522fe76638ebda3eb98f5589e0c2417", func := "sosopt/sosoptlaw28.NearestProjected", spec := "nearestProjected", inPlace := ["math/bits.Add64", "math/bits.Sub64"], unfollowed := true, recurses := true, named := ["math/bits.divideError", "math/bits.overflowError", "math/bits.deBruijn64tab", "internal/strconv.uint64pow10", "math/bits.deBruijn32tab"], apart := false, laid := [("math/bits.deBruijn32tab", laid_math_bits_deBruijn32tab), ("math/bits.deBruijn64tab", laid_math_bits_deBruijn64tab), ("internal/strconv.uint64pow10", laid_internal_strconv_uint64pow10)], narrowed := true }
def NearestProjectedUptoSaid : Prop := nearestProjectedUptoRow.holds Tryz.pinned (OpenSpec.upto nearestProjectedSpec)

/-- 'sosoptlaw28.NearestRefuses', WHERE WHAT IT READS IS OF BULK AT MOST 1048576: true; the input reads as it did. -/
def nearestRefusesUptoRow : OpenClaim := { program := "ytgnclfejnndicaagreatdoor", sum := "38bb94ef09a5f1213e03450819dbb1e99522fe76638ebda3eb98f5589e0c2417", func := "sosopt/sosoptlaw28.NearestRefuses", spec := "nearestRefuses", inPlace := ["math/bits.Add64", "math/bits.Sub64"], unfollowed := true, recurses := true, named := ["math/bits.divideError", "math/bits.overflowError", "math/bits.deBruijn64tab", "internal/strconv.uint64pow10", "math/bits.deBruijn32tab"], apart := false, laid := [("math/bits.deBruijn32tab", laid_math_bits_deBruijn32tab), ("math/bits.deBruijn64tab", laid_math_bits_deBruijn64tab), ("internal/strconv.uint64pow10", laid_internal_strconv_uint64pow10)], narrowed := true }
def NearestRefusesUptoSaid : Prop := nearestRefusesUptoRow.holds Tryz.pinned (OpenSpec.upto nearestRefusesSpec)

end Rows
end Go.Proofs.YtgnclfejnndicaaGreatDoor
