/-
  DERIVED. GIVEN WITH THE SEED: THE CARDS: each row of YthilnfgnpdeofaaGreatDoorRows.lean that lists a variable, with what it lists TIED to the program's text (the seventh form; the later family's looks); each row that meets fmt, with fmt's text TOLD by the authors' own Lean function (tested against real Go, not proved from fmt's source: count such statements apart). THE CARD IS WHAT COUNTS. Prove the row's statement (the work); the ties are given (YthilnfgnpdeofaaGreatDoorTie.lean); close each card by the builder's one call (the guide's Derived/Test/ToyasCard.lean, 'card_holds'). Laid BY PROGRAM, IN A SANDBOX (cutbox-door.mjs). By AI agents, Wed Nov 11 2026. No macro, syntax, notation, axiom, sorry.
-/
import Derived.Test.YthilnfgnpdeofaaGreatDoorRows
import GoSem.ClaimSeven
namespace Go.Proofs.YthilnfgnpdeofaaGreatDoor
namespace Rows

/-- THE TIED CARD OF 'sosoptlaw03.MatrixReduce'. -/
def matrixReduceCard : Claim7 := { stood := { row := matrixReduceRow, standIns := [], harness := (true, "1f1dd7a1da2bc25897093bb08f9144b35d9ae46214fab6343bc44505f3bb9254"), looks := false }, kinds := [], alts := [], laidByText := true, laidKinds := [.data, .data, .data], laidTests := true, laidLooks := .later }
def MatrixReduceCardSaid : Prop := Claim7.holds Tryz.pinned (.plain (OpenSpec.ofChange matrixReduceSpec)) matrixReduceCard

/-- THE TIED CARD OF 'sosoptlaw03.MatrixSolve'. -/
def matrixSolveCard : Claim7 := { stood := { row := matrixSolveRow, standIns := [], harness := (true, "1f1dd7a1da2bc25897093bb08f9144b35d9ae46214fab6343bc44505f3bb9254"), looks := false }, kinds := [], alts := [], laidByText := true, laidKinds := [.data, .data, .data], laidTests := true, laidLooks := .later }
def MatrixSolveCardSaid : Prop := Claim7.holds Tryz.pinned (.plain (OpenSpec.ofChange matrixSolveSpec)) matrixSolveCard

/-- THE TIED CARD OF 'sosoptlaw03.MatrixProducts'. -/
def matrixProductsCard : Claim7 := { stood := { row := matrixProductsRow, standIns := [], harness := (true, "1f1dd7a1da2bc25897093bb08f9144b35d9ae46214fab6343bc44505f3bb9254"), looks := false }, kinds := [], alts := [], laidByText := true, laidKinds := [.data, .data, .data], laidTests := true, laidLooks := .later }
def MatrixProductsCardSaid : Prop := Claim7.holds Tryz.pinned (.plain (OpenSpec.ofChange matrixProductsSpec)) matrixProductsCard

/-- THE TIED CARD OF 'sosoptlaw03.MatrixInverse'. -/
def matrixInverseCard : Claim7 := { stood := { row := matrixInverseRow, standIns := [], harness := (true, "1f1dd7a1da2bc25897093bb08f9144b35d9ae46214fab6343bc44505f3bb9254"), looks := false }, kinds := [], alts := [], laidByText := true, laidKinds := [.data, .data, .data], laidTests := true, laidLooks := .later }
def MatrixInverseCardSaid : Prop := Claim7.holds Tryz.pinned (.plain (OpenSpec.ofChange matrixInverseSpec)) matrixInverseCard

/-- THE TIED CARD OF 'sosoptlaw03.MatrixOwn'. -/
def matrixOwnCard : Claim7 := { stood := { row := matrixOwnRow, standIns := [], harness := (true, "1f1dd7a1da2bc25897093bb08f9144b35d9ae46214fab6343bc44505f3bb9254"), looks := false }, kinds := [], alts := [], laidByText := true, laidKinds := [.data, .data, .data], laidTests := true, laidLooks := .later }
def MatrixOwnCardSaid : Prop := Claim7.holds Tryz.pinned (.plain (OpenSpec.ofChange matrixOwnSpec)) matrixOwnCard

/-- THE TIED CARD OF 'sosoptlaw03.MatrixRing'. -/
def matrixRingCard : Claim7 := { stood := { row := matrixRingRow, standIns := [], harness := (true, "1f1dd7a1da2bc25897093bb08f9144b35d9ae46214fab6343bc44505f3bb9254"), looks := false }, kinds := [], alts := [], laidByText := true, laidKinds := [.data, .data, .data], laidTests := true, laidLooks := .later }
def MatrixRingCardSaid : Prop := Claim7.holds Tryz.pinned (.plain (OpenSpec.ofChange matrixRingSpec)) matrixRingCard

/-- THE TIED CARD OF 'sosoptlaw03.MatrixNew'. -/
def matrixNewCard : Claim7 := { stood := { row := matrixNewRow, standIns := [], harness := (true, "1f1dd7a1da2bc25897093bb08f9144b35d9ae46214fab6343bc44505f3bb9254"), looks := false }, kinds := [], alts := [], laidByText := true, laidKinds := [.data, .data, .data], laidTests := true, laidLooks := .later }
def MatrixNewCardSaid : Prop := Claim7.holds Tryz.pinned (.plain (OpenSpec.ofChange matrixNewSpec)) matrixNewCard

/-- THE TIED CARD OF 'sosoptlaw03.MatrixLinear'. -/
def matrixLinearCard : Claim7 := { stood := { row := matrixLinearRow, standIns := [], harness := (true, "1f1dd7a1da2bc25897093bb08f9144b35d9ae46214fab6343bc44505f3bb9254"), looks := false }, kinds := [], alts := [], laidByText := true, laidKinds := [.data, .data, .data], laidTests := true, laidLooks := .later }
def MatrixLinearCardSaid : Prop := Claim7.holds Tryz.pinned (.plain (OpenSpec.ofChange matrixLinearSpec)) matrixLinearCard

/-- THE TIED CARD OF 'sosoptlaw03.MatrixFactors'. -/
def matrixFactorsCard : Claim7 := { stood := { row := matrixFactorsRow, standIns := [], harness := (true, "1f1dd7a1da2bc25897093bb08f9144b35d9ae46214fab6343bc44505f3bb9254"), looks := false }, kinds := [], alts := [], laidByText := true, laidKinds := [.data, .data, .data], laidTests := true, laidLooks := .later }
def MatrixFactorsCardSaid : Prop := Claim7.holds Tryz.pinned (.plain (OpenSpec.ofChange matrixFactorsSpec)) matrixFactorsCard

/-- THE TIED CARD OF 'sosoptlaw03.MatrixDeterminant'. -/
def matrixDeterminantCard : Claim7 := { stood := { row := matrixDeterminantRow, standIns := [], harness := (true, "1f1dd7a1da2bc25897093bb08f9144b35d9ae46214fab6343bc44505f3bb9254"), looks := false }, kinds := [], alts := [], laidByText := true, laidKinds := [.data, .data, .data], laidTests := true, laidLooks := .later }
def MatrixDeterminantCardSaid : Prop := Claim7.holds Tryz.pinned (.plain (OpenSpec.ofChange matrixDeterminantSpec)) matrixDeterminantCard

/-- THE SECOND FORM's CARD OF 'sosoptlaw03.MatrixReduce'. -/
def matrixReduceUptoCard : Claim7 := { stood := { row := matrixReduceUptoRow, standIns := [], harness := (true, "1f1dd7a1da2bc25897093bb08f9144b35d9ae46214fab6343bc44505f3bb9254"), looks := false }, kinds := [], alts := [], laidByText := true, laidKinds := [.data, .data, .data], laidTests := true, laidLooks := .later }
def MatrixReduceUptoCardSaid : Prop := Claim7.holds Tryz.pinned (.plain (OpenSpec.upto matrixReduceSpec)) matrixReduceUptoCard

/-- THE SECOND FORM's CARD OF 'sosoptlaw03.MatrixSolve'. -/
def matrixSolveUptoCard : Claim7 := { stood := { row := matrixSolveUptoRow, standIns := [], harness := (true, "1f1dd7a1da2bc25897093bb08f9144b35d9ae46214fab6343bc44505f3bb9254"), looks := false }, kinds := [], alts := [], laidByText := true, laidKinds := [.data, .data, .data], laidTests := true, laidLooks := .later }
def MatrixSolveUptoCardSaid : Prop := Claim7.holds Tryz.pinned (.plain (OpenSpec.upto matrixSolveSpec)) matrixSolveUptoCard

/-- THE SECOND FORM's CARD OF 'sosoptlaw03.MatrixProducts'. -/
def matrixProductsUptoCard : Claim7 := { stood := { row := matrixProductsUptoRow, standIns := [], harness := (true, "1f1dd7a1da2bc25897093bb08f9144b35d9ae46214fab6343bc44505f3bb9254"), looks := false }, kinds := [], alts := [], laidByText := true, laidKinds := [.data, .data, .data], laidTests := true, laidLooks := .later }
def MatrixProductsUptoCardSaid : Prop := Claim7.holds Tryz.pinned (.plain (OpenSpec.upto matrixProductsSpec)) matrixProductsUptoCard

/-- THE SECOND FORM's CARD OF 'sosoptlaw03.MatrixInverse'. -/
def matrixInverseUptoCard : Claim7 := { stood := { row := matrixInverseUptoRow, standIns := [], harness := (true, "1f1dd7a1da2bc25897093bb08f9144b35d9ae46214fab6343bc44505f3bb9254"), looks := false }, kinds := [], alts := [], laidByText := true, laidKinds := [.data, .data, .data], laidTests := true, laidLooks := .later }
def MatrixInverseUptoCardSaid : Prop := Claim7.holds Tryz.pinned (.plain (OpenSpec.upto matrixInverseSpec)) matrixInverseUptoCard

/-- THE SECOND FORM's CARD OF 'sosoptlaw03.MatrixOwn'. -/
def matrixOwnUptoCard : Claim7 := { stood := { row := matrixOwnUptoRow, standIns := [], harness := (true, "1f1dd7a1da2bc25897093bb08f9144b35d9ae46214fab6343bc44505f3bb9254"), looks := false }, kinds := [], alts := [], laidByText := true, laidKinds := [.data, .data, .data], laidTests := true, laidLooks := .later }
def MatrixOwnUptoCardSaid : Prop := Claim7.holds Tryz.pinned (.plain (OpenSpec.upto matrixOwnSpec)) matrixOwnUptoCard

/-- THE SECOND FORM's CARD OF 'sosoptlaw03.MatrixRing'. -/
def matrixRingUptoCard : Claim7 := { stood := { row := matrixRingUptoRow, standIns := [], harness := (true, "1f1dd7a1da2bc25897093bb08f9144b35d9ae46214fab6343bc44505f3bb9254"), looks := false }, kinds := [], alts := [], laidByText := true, laidKinds := [.data, .data, .data], laidTests := true, laidLooks := .later }
def MatrixRingUptoCardSaid : Prop := Claim7.holds Tryz.pinned (.plain (OpenSpec.upto matrixRingSpec)) matrixRingUptoCard

/-- THE SECOND FORM's CARD OF 'sosoptlaw03.MatrixNew'. -/
def matrixNewUptoCard : Claim7 := { stood := { row := matrixNewUptoRow, standIns := [], harness := (true, "1f1dd7a1da2bc25897093bb08f9144b35d9ae46214fab6343bc44505f3bb9254"), looks := false }, kinds := [], alts := [], laidByText := true, laidKinds := [.data, .data, .data], laidTests := true, laidLooks := .later }
def MatrixNewUptoCardSaid : Prop := Claim7.holds Tryz.pinned (.plain (OpenSpec.upto matrixNewSpec)) matrixNewUptoCard

/-- THE SECOND FORM's CARD OF 'sosoptlaw03.MatrixLinear'. -/
def matrixLinearUptoCard : Claim7 := { stood := { row := matrixLinearUptoRow, standIns := [], harness := (true, "1f1dd7a1da2bc25897093bb08f9144b35d9ae46214fab6343bc44505f3bb9254"), looks := false }, kinds := [], alts := [], laidByText := true, laidKinds := [.data, .data, .data], laidTests := true, laidLooks := .later }
def MatrixLinearUptoCardSaid : Prop := Claim7.holds Tryz.pinned (.plain (OpenSpec.upto matrixLinearSpec)) matrixLinearUptoCard

/-- THE SECOND FORM's CARD OF 'sosoptlaw03.MatrixFactors'. -/
def matrixFactorsUptoCard : Claim7 := { stood := { row := matrixFactorsUptoRow, standIns := [], harness := (true, "1f1dd7a1da2bc25897093bb08f9144b35d9ae46214fab6343bc44505f3bb9254"), looks := false }, kinds := [], alts := [], laidByText := true, laidKinds := [.data, .data, .data], laidTests := true, laidLooks := .later }
def MatrixFactorsUptoCardSaid : Prop := Claim7.holds Tryz.pinned (.plain (OpenSpec.upto matrixFactorsSpec)) matrixFactorsUptoCard

/-- THE SECOND FORM's CARD OF 'sosoptlaw03.MatrixDeterminant'. -/
def matrixDeterminantUptoCard : Claim7 := { stood := { row := matrixDeterminantUptoRow, standIns := [], harness := (true, "1f1dd7a1da2bc25897093bb08f9144b35d9ae46214fab6343bc44505f3bb9254"), looks := false }, kinds := [], alts := [], laidByText := true, laidKinds := [.data, .data, .data], laidTests := true, laidLooks := .later }
def MatrixDeterminantUptoCardSaid : Prop := Claim7.holds Tryz.pinned (.plain (OpenSpec.upto matrixDeterminantSpec)) matrixDeterminantUptoCard
end Rows
end Go.Proofs.YthilnfgnpdeofaaGreatDoor
