/-
  No cell of these rows narrows 'for every input' (looked for: loops, veiled, ifaces, maps, wideKeys, modest, calm, conditions, laid).
  DERIVED. THE GIVEN ROWS OF THIS SEAT. 7 by the template 'for every input the law returns true; each argument reads behind the call as it read before'; 0 by the template 'total and deterministic' (their statements: YtlmdojkanhmioaaTotals.lean).
  GIVEN WITH THE SEED: the statements are not yours to turn. If you find one false, say at which input.
  Laid BY PROGRAM, IN A SANDBOX (cutbox-rows.mjs): the forced cells as the released guide's own fill.sh prints them over the translation d7ce41305e567ec1… (all of the seat's roots in one cut). By AI agents, Wed Nov 11 2026. No macro, syntax, notation, axiom, sorry.
-/
import Derived.Test.YtlmdojkanhmioaaChecked
import GoSem.Claim
import GoSem.ClaimJoined
import GoSem.ClaimMapViews
import Derived.JoinedTies
import Derived.KernelRfl
namespace Go.Proofs.Ytlmdojkanhmioaa
/- THE CELL 'sum', in the pinned program and in every row, IS THE sha256 OF THE DUMP (.gsa) THAT YtlmdojkanhmioaaProg.lean LOADS. Nothing in Lean hashes anything: it is a label: what it is worth is what the hold of that sum in a sandbox is worth. -/
noncomputable def Try.pinned : Pinned := { name := "ytlmdojkanhmioaa", sum := "d7ce41305e567ec170d2b02f6d9339b2052f8fb80e68c0d7dbb160b1af93c355", checked := Try.checked }
namespace Rows
def none {H : Type} : Left H := { results := [], args := [] }

/-- 'sosoptlaw05.MonomialCount': WHATEVER THE INPUT: true; the input reads as it did. -/
def monomialCountSpec : ChangeSpec := { name := "monomialCount", fn := fun _ => fun
  | [d1, d2] => { results := [.lit (.bool true)], args := [d1, d2] }
  | _ => none }
def monomialCountRow : OpenClaim := { program := "ytlmdojkanhmioaa", sum := "d7ce41305e567ec170d2b02f6d9339b2052f8fb80e68c0d7dbb160b1af93c355", func := "sosopt/sosoptlaw05.MonomialCount", spec := "monomialCount", recurses := true, apart := false }
def MonomialCountSaid : Prop := monomialCountRow.holds Try.pinned (OpenSpec.ofChange monomialCountSpec)

/-- ITS FALSE NEIGHBOUR: 'it returns false'. Refute it at one input. -/
def monomialCountWrong : ChangeSpec := { name := "monomialCount", fn := fun _ => fun
  | [d1, d2] => { results := [.lit (.bool false)], args := [d1, d2] }
  | _ => none }
def MonomialCountWrongFalsely : Prop := monomialCountRow.holds Try.pinned (OpenSpec.ofChange monomialCountWrong)

/-- 'sosoptlaw05.MonomialAll': WHATEVER THE INPUT: true; the input reads as it did. -/
def monomialAllSpec : ChangeSpec := { name := "monomialAll", fn := fun _ => fun
  | [d1, d2] => { results := [.lit (.bool true)], args := [d1, d2] }
  | _ => none }
def monomialAllRow : OpenClaim := { program := "ytlmdojkanhmioaa", sum := "d7ce41305e567ec170d2b02f6d9339b2052f8fb80e68c0d7dbb160b1af93c355", func := "sosopt/sosoptlaw05.MonomialAll", spec := "monomialAll", recurses := true, apart := false }
def MonomialAllSaid : Prop := monomialAllRow.holds Try.pinned (OpenSpec.ofChange monomialAllSpec)

/-- ITS FALSE NEIGHBOUR: 'it returns false'. Refute it at one input. -/
def monomialAllWrong : ChangeSpec := { name := "monomialAll", fn := fun _ => fun
  | [d1, d2] => { results := [.lit (.bool false)], args := [d1, d2] }
  | _ => none }
def MonomialAllWrongFalsely : Prop := monomialAllRow.holds Try.pinned (OpenSpec.ofChange monomialAllWrong)

/-- 'sosoptlaw05.MonomialIndex': WHATEVER THE INPUT: true; the input reads as it did. -/
def monomialIndexSpec : ChangeSpec := { name := "monomialIndex", fn := fun _ => fun
  | [d1, d2] => { results := [.lit (.bool true)], args := [d1, d2] }
  | _ => none }
def monomialIndexRow : OpenClaim := { program := "ytlmdojkanhmioaa", sum := "d7ce41305e567ec170d2b02f6d9339b2052f8fb80e68c0d7dbb160b1af93c355", func := "sosopt/sosoptlaw05.MonomialIndex", spec := "monomialIndex", recurses := true, apart := false }
def MonomialIndexSaid : Prop := monomialIndexRow.holds Try.pinned (OpenSpec.ofChange monomialIndexSpec)

/-- ITS FALSE NEIGHBOUR: 'it returns false'. Refute it at one input. -/
def monomialIndexWrong : ChangeSpec := { name := "monomialIndex", fn := fun _ => fun
  | [d1, d2] => { results := [.lit (.bool false)], args := [d1, d2] }
  | _ => none }
def MonomialIndexWrongFalsely : Prop := monomialIndexRow.holds Try.pinned (OpenSpec.ofChange monomialIndexWrong)

/-- 'sosoptlaw05.MonomialValid': WHATEVER THE INPUT: true; the input reads as it did. -/
def monomialValidSpec : ChangeSpec := { name := "monomialValid", fn := fun _ => fun
  | [d1, d2] => { results := [.lit (.bool true)], args := [d1, d2] }
  | _ => none }
def monomialValidRow : OpenClaim := { program := "ytlmdojkanhmioaa", sum := "d7ce41305e567ec170d2b02f6d9339b2052f8fb80e68c0d7dbb160b1af93c355", func := "sosopt/sosoptlaw05.MonomialValid", spec := "monomialValid", recurses := true, apart := false }
def MonomialValidSaid : Prop := monomialValidRow.holds Try.pinned (OpenSpec.ofChange monomialValidSpec)

/-- ITS FALSE NEIGHBOUR: 'it returns false'. Refute it at one input. -/
def monomialValidWrong : ChangeSpec := { name := "monomialValid", fn := fun _ => fun
  | [d1, d2] => { results := [.lit (.bool false)], args := [d1, d2] }
  | _ => none }
def MonomialValidWrongFalsely : Prop := monomialValidRow.holds Try.pinned (OpenSpec.ofChange monomialValidWrong)

/-- 'sosoptlaw05.MonomialOrder': WHATEVER THE INPUT: true; the input reads as it did. -/
def monomialOrderSpec : ChangeSpec := { name := "monomialOrder", fn := fun _ => fun
  | [d1, d2, d3] => { results := [.lit (.bool true)], args := [d1, d2, d3] }
  | _ => none }
def monomialOrderRow : OpenClaim := { program := "ytlmdojkanhmioaa", sum := "d7ce41305e567ec170d2b02f6d9339b2052f8fb80e68c0d7dbb160b1af93c355", func := "sosopt/sosoptlaw05.MonomialOrder", spec := "monomialOrder", unfollowed := true, recurses := true, apart := false }
def MonomialOrderSaid : Prop := monomialOrderRow.holds Try.pinned (OpenSpec.ofChange monomialOrderSpec)

/-- ITS FALSE NEIGHBOUR: 'it returns false'. Refute it at one input. -/
def monomialOrderWrong : ChangeSpec := { name := "monomialOrder", fn := fun _ => fun
  | [d1, d2, d3] => { results := [.lit (.bool false)], args := [d1, d2, d3] }
  | _ => none }
def MonomialOrderWrongFalsely : Prop := monomialOrderRow.holds Try.pinned (OpenSpec.ofChange monomialOrderWrong)

/-- 'sosoptlaw05.MonomialArithmetic': WHATEVER THE INPUT: true; the input reads as it did. -/
def monomialArithmeticSpec : ChangeSpec := { name := "monomialArithmetic", fn := fun _ => fun
  | [d1, d2] => { results := [.lit (.bool true)], args := [d1, d2] }
  | _ => none }
def monomialArithmeticRow : OpenClaim := { program := "ytlmdojkanhmioaa", sum := "d7ce41305e567ec170d2b02f6d9339b2052f8fb80e68c0d7dbb160b1af93c355", func := "sosopt/sosoptlaw05.MonomialArithmetic", spec := "monomialArithmetic", unfollowed := true, recurses := true, apart := false }
def MonomialArithmeticSaid : Prop := monomialArithmeticRow.holds Try.pinned (OpenSpec.ofChange monomialArithmeticSpec)

/-- ITS FALSE NEIGHBOUR: 'it returns false'. Refute it at one input. -/
def monomialArithmeticWrong : ChangeSpec := { name := "monomialArithmetic", fn := fun _ => fun
  | [d1, d2] => { results := [.lit (.bool false)], args := [d1, d2] }
  | _ => none }
def MonomialArithmeticWrongFalsely : Prop := monomialArithmeticRow.holds Try.pinned (OpenSpec.ofChange monomialArithmeticWrong)

/-- 'sosoptlaw05.MonomialLcm': WHATEVER THE INPUT: true; the input reads as it did. -/
def monomialLcmSpec : ChangeSpec := { name := "monomialLcm", fn := fun _ => fun
  | [d1, d2, d3] => { results := [.lit (.bool true)], args := [d1, d2, d3] }
  | _ => none }
def monomialLcmRow : OpenClaim := { program := "ytlmdojkanhmioaa", sum := "d7ce41305e567ec170d2b02f6d9339b2052f8fb80e68c0d7dbb160b1af93c355", func := "sosopt/sosoptlaw05.MonomialLcm", spec := "monomialLcm", unfollowed := true, recurses := true, apart := false }
def MonomialLcmSaid : Prop := monomialLcmRow.holds Try.pinned (OpenSpec.ofChange monomialLcmSpec)

/-- ITS FALSE NEIGHBOUR: 'it returns false'. Refute it at one input. -/
def monomialLcmWrong : ChangeSpec := { name := "monomialLcm", fn := fun _ => fun
  | [d1, d2, d3] => { results := [.lit (.bool false)], args := [d1, d2, d3] }
  | _ => none }
def MonomialLcmWrongFalsely : Prop := monomialLcmRow.holds Try.pinned (OpenSpec.ofChange monomialLcmWrong)

/- THE SECOND FORM. 'bulk': how many values and letters a reading holds, each counted each time it is reached (what is shared counts as often as it is met; a slice's spare places count too). A statement '..UptoSaid' is the law's where the arguments, and the package variables that the reading takes, are together of bulk at most 1048576: NARROWER than '..Said'. Prove '..Said' where nothing that the law and all that it calls make is longer than what came in: it says more and counts as full. Else prove '..UptoSaid'. A law counts once. -/
mutual
def uptoBulk {H : Type} : DataW H → Nat
  | .lit (.string bytes) => bytes.length + 1
  | .lit _ => 1
  | .nil => 1
  | .ptr d => uptoBulk d + 1
  | .slice elems spare => uptoBulkAll elems + uptoBulkAll spare + 1
  | .agg parts => uptoBulkAll parts + 1
  | .iface _ d => uptoBulk d + 1
  | .map entries => uptoBulkEntries entries + 1
  | .held _ => 1
def uptoBulkAll {H : Type} : List (DataW H) → Nat
  | [] => 0
  | d :: r => uptoBulk d + uptoBulkAll r
def uptoBulkEntries {H : Type} : List (Lit × DataW H) → Nat
  | [] => 0
  | x :: r => uptoBulkEntry x + uptoBulkEntries r
def uptoBulkEntry {H : Type} : Lit × DataW H → Nat
  | (.string bytes, d) => bytes.length + uptoBulk d + 1
  | (_, d) => uptoBulk d + 1
 end
def uptoSmall : (H : Type) → List (DataW H) → Bool := fun _ ds => decide (uptoBulkAll ds ≤ 1048576)
def OpenSpec.upto (s : _root_.Go.ChangeSpec) : _root_.Go.OpenSpec := { _root_.Go.OpenSpec.ofChange s with cond := some uptoSmall }

/-- 'sosoptlaw05.MonomialCount', WHERE WHAT IT READS IS OF BULK AT MOST 1048576: true; the input reads as it did. -/
def monomialCountUptoRow : OpenClaim := { program := "ytlmdojkanhmioaa", sum := "d7ce41305e567ec170d2b02f6d9339b2052f8fb80e68c0d7dbb160b1af93c355", func := "sosopt/sosoptlaw05.MonomialCount", spec := "monomialCount", recurses := true, apart := false, narrowed := true }
def MonomialCountUptoSaid : Prop := monomialCountUptoRow.holds Try.pinned (OpenSpec.upto monomialCountSpec)

/-- 'sosoptlaw05.MonomialAll', WHERE WHAT IT READS IS OF BULK AT MOST 1048576: true; the input reads as it did. -/
def monomialAllUptoRow : OpenClaim := { program := "ytlmdojkanhmioaa", sum := "d7ce41305e567ec170d2b02f6d9339b2052f8fb80e68c0d7dbb160b1af93c355", func := "sosopt/sosoptlaw05.MonomialAll", spec := "monomialAll", recurses := true, apart := false, narrowed := true }
def MonomialAllUptoSaid : Prop := monomialAllUptoRow.holds Try.pinned (OpenSpec.upto monomialAllSpec)

/-- 'sosoptlaw05.MonomialIndex', WHERE WHAT IT READS IS OF BULK AT MOST 1048576: true; the input reads as it did. -/
def monomialIndexUptoRow : OpenClaim := { program := "ytlmdojkanhmioaa", sum := "d7ce41305e567ec170d2b02f6d9339b2052f8fb80e68c0d7dbb160b1af93c355", func := "sosopt/sosoptlaw05.MonomialIndex", spec := "monomialIndex", recurses := true, apart := false, narrowed := true }
def MonomialIndexUptoSaid : Prop := monomialIndexUptoRow.holds Try.pinned (OpenSpec.upto monomialIndexSpec)

/-- 'sosoptlaw05.MonomialValid', WHERE WHAT IT READS IS OF BULK AT MOST 1048576: true; the input reads as it did. -/
def monomialValidUptoRow : OpenClaim := { program := "ytlmdojkanhmioaa", sum := "d7ce41305e567ec170d2b02f6d9339b2052f8fb80e68c0d7dbb160b1af93c355", func := "sosopt/sosoptlaw05.MonomialValid", spec := "monomialValid", recurses := true, apart := false, narrowed := true }
def MonomialValidUptoSaid : Prop := monomialValidUptoRow.holds Try.pinned (OpenSpec.upto monomialValidSpec)

/-- 'sosoptlaw05.MonomialOrder', WHERE WHAT IT READS IS OF BULK AT MOST 1048576: true; the input reads as it did. -/
def monomialOrderUptoRow : OpenClaim := { program := "ytlmdojkanhmioaa", sum := "d7ce41305e567ec170d2b02f6d9339b2052f8fb80e68c0d7dbb160b1af93c355", func := "sosopt/sosoptlaw05.MonomialOrder", spec := "monomialOrder", unfollowed := true, recurses := true, apart := false, narrowed := true }
def MonomialOrderUptoSaid : Prop := monomialOrderUptoRow.holds Try.pinned (OpenSpec.upto monomialOrderSpec)

/-- 'sosoptlaw05.MonomialArithmetic', WHERE WHAT IT READS IS OF BULK AT MOST 1048576: true; the input reads as it did. -/
def monomialArithmeticUptoRow : OpenClaim := { program := "ytlmdojkanhmioaa", sum := "d7ce41305e567ec170d2b02f6d9339b2052f8fb80e68c0d7dbb160b1af93c355", func := "sosopt/sosoptlaw05.MonomialArithmetic", spec := "monomialArithmetic", unfollowed := true, recurses := true, apart := false, narrowed := true }
def MonomialArithmeticUptoSaid : Prop := monomialArithmeticUptoRow.holds Try.pinned (OpenSpec.upto monomialArithmeticSpec)

/-- 'sosoptlaw05.MonomialLcm', WHERE WHAT IT READS IS OF BULK AT MOST 1048576: true; the input reads as it did. -/
def monomialLcmUptoRow : OpenClaim := { program := "ytlmdojkanhmioaa", sum := "d7ce41305e567ec170d2b02f6d9339b2052f8fb80e68c0d7dbb160b1af93c355", func := "sosopt/sosoptlaw05.MonomialLcm", spec := "monomialLcm", unfollowed := true, recurses := true, apart := false, narrowed := true }
def MonomialLcmUptoSaid : Prop := monomialLcmUptoRow.holds Try.pinned (OpenSpec.upto monomialLcmSpec)

end Rows
end Go.Proofs.Ytlmdojkanhmioaa
