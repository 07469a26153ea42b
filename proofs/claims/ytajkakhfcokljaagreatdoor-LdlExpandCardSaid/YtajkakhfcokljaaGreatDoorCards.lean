/-
  DERIVED. GIVEN WITH THE SEED: THE CARDS: each row of YtajkakhfcokljaaGreatDoorRows.lean that lists a variable, with what it lists TIED to the program's text (the seventh form; the later family's looks); each row that meets fmt, with fmt's text TOLD by the authors' own Lean function (tested against real Go, not proved from fmt's source: count such statements apart). THE CARD IS WHAT COUNTS. Prove the row's statement (the work); the ties are given (YtajkakhfcokljaaGreatDoorTie.lean); close each card by the builder's one call (the guide's Derived/Test/ToyasCard.lean, 'card_holds'). Laid BY PROGRAM, IN A SANDBOX (cutbox-door.mjs). By AI agents, Wed Nov 11 2026. No macro, syntax, notation, axiom, sorry.
-/
import Derived.Test.YtajkakhfcokljaaGreatDoorRows
import GoSem.ClaimSeven
namespace Go.Proofs.YtajkakhfcokljaaGreatDoor
namespace Rows

/-- THE TIED CARD OF 'sosoptlaw03.MatrixNew'. -/
def matrixNewCard : Claim7 := { stood := { row := matrixNewRow, standIns := [], harness := (true, "fa83098a76324d0f2d19666c6e2356dfe1abc2200d6feb33ab6f637114a5f2d9"), looks := false }, kinds := [], alts := [], laidByText := true, laidKinds := [.data, .data, .data], laidTests := true, laidLooks := .later }
def MatrixNewCardSaid : Prop := Claim7.holds Tryz.pinned (.plain (OpenSpec.ofChange matrixNewSpec)) matrixNewCard

/-- THE TIED CARD OF 'sosoptlaw03.MatrixDeterminant'. -/
def matrixDeterminantCard : Claim7 := { stood := { row := matrixDeterminantRow, standIns := [], harness := (true, "fa83098a76324d0f2d19666c6e2356dfe1abc2200d6feb33ab6f637114a5f2d9"), looks := false }, kinds := [], alts := [], laidByText := true, laidKinds := [.data, .data, .data], laidTests := true, laidLooks := .later }
def MatrixDeterminantCardSaid : Prop := Claim7.holds Tryz.pinned (.plain (OpenSpec.ofChange matrixDeterminantSpec)) matrixDeterminantCard

/-- THE TIED CARD OF 'sosoptlaw04.LdlWitness'. -/
def ldlWitnessCard : Claim7 := { stood := { row := ldlWitnessRow, standIns := [], harness := (true, "fa83098a76324d0f2d19666c6e2356dfe1abc2200d6feb33ab6f637114a5f2d9"), looks := false }, kinds := [], alts := [], laidByText := true, laidKinds := [.data, .data, .data], laidTests := true, laidLooks := .later }
def LdlWitnessCardSaid : Prop := Claim7.holds Tryz.pinned (.plain (OpenSpec.ofChange ldlWitnessSpec)) ldlWitnessCard

/-- THE TIED CARD OF 'sosoptlaw04.LdlWitnessRaw'. -/
def ldlWitnessRawCard : Claim7 := { stood := { row := ldlWitnessRawRow, standIns := [], harness := (true, "fa83098a76324d0f2d19666c6e2356dfe1abc2200d6feb33ab6f637114a5f2d9"), looks := false }, kinds := [], alts := [], laidByText := true, laidKinds := [.data, .data, .data], laidTests := true, laidLooks := .later }
def LdlWitnessRawCardSaid : Prop := Claim7.holds Tryz.pinned (.plain (OpenSpec.ofChange ldlWitnessRawSpec)) ldlWitnessRawCard

/-- THE TIED CARD OF 'sosoptlaw04.LdlExpand'. -/
def ldlExpandCard : Claim7 := { stood := { row := ldlExpandRow, standIns := [], harness := (true, "fa83098a76324d0f2d19666c6e2356dfe1abc2200d6feb33ab6f637114a5f2d9"), looks := false }, kinds := [], alts := [], laidByText := true, laidKinds := [.data, .data, .data], laidTests := true, laidLooks := .later }
def LdlExpandCardSaid : Prop := Claim7.holds Tryz.pinned (.plain (OpenSpec.ofChange ldlExpandSpec)) ldlExpandCard

/-- THE TIED CARD OF 'sosoptlaw04.LdlInertiaCongruence'. -/
def ldlInertiaCongruenceCard : Claim7 := { stood := { row := ldlInertiaCongruenceRow, standIns := [], harness := (true, "fa83098a76324d0f2d19666c6e2356dfe1abc2200d6feb33ab6f637114a5f2d9"), looks := false }, kinds := [], alts := [], laidByText := true, laidKinds := [.data, .data, .data], laidTests := true, laidLooks := .later }
def LdlInertiaCongruenceCardSaid : Prop := Claim7.holds Tryz.pinned (.plain (OpenSpec.ofChange ldlInertiaCongruenceSpec)) ldlInertiaCongruenceCard

/-- THE TIED CARD OF 'sosoptlaw04.LdlFactor'. -/
def ldlFactorCard : Claim7 := { stood := { row := ldlFactorRow, standIns := [], harness := (true, "fa83098a76324d0f2d19666c6e2356dfe1abc2200d6feb33ab6f637114a5f2d9"), looks := false }, kinds := [], alts := [], laidByText := true, laidKinds := [.data, .data, .data], laidTests := true, laidLooks := .later }
def LdlFactorCardSaid : Prop := Claim7.holds Tryz.pinned (.plain (OpenSpec.ofChange ldlFactorSpec)) ldlFactorCard

/-- THE TIED CARD OF 'sosoptlaw04.LdlRaw'. -/
def ldlRawCard : Claim7 := { stood := { row := ldlRawRow, standIns := [], harness := (true, "fa83098a76324d0f2d19666c6e2356dfe1abc2200d6feb33ab6f637114a5f2d9"), looks := false }, kinds := [], alts := [], laidByText := true, laidKinds := [.data, .data, .data], laidTests := true, laidLooks := .later }
def LdlRawCardSaid : Prop := Claim7.holds Tryz.pinned (.plain (OpenSpec.ofChange ldlRawSpec)) ldlRawCard

/-- THE TIED CARD OF 'sosoptlaw04.LdlRoundTrip'. -/
def ldlRoundTripCard : Claim7 := { stood := { row := ldlRoundTripRow, standIns := [], harness := (true, "fa83098a76324d0f2d19666c6e2356dfe1abc2200d6feb33ab6f637114a5f2d9"), looks := false }, kinds := [], alts := [], laidByText := true, laidKinds := [.data, .data, .data], laidTests := true, laidLooks := .later }
def LdlRoundTripCardSaid : Prop := Claim7.holds Tryz.pinned (.plain (OpenSpec.ofChange ldlRoundTripSpec)) ldlRoundTripCard

/-- THE TIED CARD OF 'sosoptlaw04.LdlSchur'. -/
def ldlSchurCard : Claim7 := { stood := { row := ldlSchurRow, standIns := [], harness := (true, "fa83098a76324d0f2d19666c6e2356dfe1abc2200d6feb33ab6f637114a5f2d9"), looks := false }, kinds := [], alts := [], laidByText := true, laidKinds := [.data, .data, .data], laidTests := true, laidLooks := .later }
def LdlSchurCardSaid : Prop := Claim7.holds Tryz.pinned (.plain (OpenSpec.ofChange ldlSchurSpec)) ldlSchurCard

/-- THE SECOND FORM's CARD OF 'sosoptlaw03.MatrixNew'. -/
def matrixNewUptoCard : Claim7 := { stood := { row := matrixNewUptoRow, standIns := [], harness := (true, "fa83098a76324d0f2d19666c6e2356dfe1abc2200d6feb33ab6f637114a5f2d9"), looks := false }, kinds := [], alts := [], laidByText := true, laidKinds := [.data, .data, .data], laidTests := true, laidLooks := .later }
def MatrixNewUptoCardSaid : Prop := Claim7.holds Tryz.pinned (.plain (OpenSpec.upto matrixNewSpec)) matrixNewUptoCard

/-- THE SECOND FORM's CARD OF 'sosoptlaw03.MatrixDeterminant'. -/
def matrixDeterminantUptoCard : Claim7 := { stood := { row := matrixDeterminantUptoRow, standIns := [], harness := (true, "fa83098a76324d0f2d19666c6e2356dfe1abc2200d6feb33ab6f637114a5f2d9"), looks := false }, kinds := [], alts := [], laidByText := true, laidKinds := [.data, .data, .data], laidTests := true, laidLooks := .later }
def MatrixDeterminantUptoCardSaid : Prop := Claim7.holds Tryz.pinned (.plain (OpenSpec.upto matrixDeterminantSpec)) matrixDeterminantUptoCard

/-- THE SECOND FORM's CARD OF 'sosoptlaw04.LdlWitness'. -/
def ldlWitnessUptoCard : Claim7 := { stood := { row := ldlWitnessUptoRow, standIns := [], harness := (true, "fa83098a76324d0f2d19666c6e2356dfe1abc2200d6feb33ab6f637114a5f2d9"), looks := false }, kinds := [], alts := [], laidByText := true, laidKinds := [.data, .data, .data], laidTests := true, laidLooks := .later }
def LdlWitnessUptoCardSaid : Prop := Claim7.holds Tryz.pinned (.plain (OpenSpec.upto ldlWitnessSpec)) ldlWitnessUptoCard

/-- THE SECOND FORM's CARD OF 'sosoptlaw04.LdlWitnessRaw'. -/
def ldlWitnessRawUptoCard : Claim7 := { stood := { row := ldlWitnessRawUptoRow, standIns := [], harness := (true, "fa83098a76324d0f2d19666c6e2356dfe1abc2200d6feb33ab6f637114a5f2d9"), looks := false }, kinds := [], alts := [], laidByText := true, laidKinds := [.data, .data, .data], laidTests := true, laidLooks := .later }
def LdlWitnessRawUptoCardSaid : Prop := Claim7.holds Tryz.pinned (.plain (OpenSpec.upto ldlWitnessRawSpec)) ldlWitnessRawUptoCard

/-- THE SECOND FORM's CARD OF 'sosoptlaw04.LdlExpand'. -/
def ldlExpandUptoCard : Claim7 := { stood := { row := ldlExpandUptoRow, standIns := [], harness := (true, "fa83098a76324d0f2d19666c6e2356dfe1abc2200d6feb33ab6f637114a5f2d9"), looks := false }, kinds := [], alts := [], laidByText := true, laidKinds := [.data, .data, .data], laidTests := true, laidLooks := .later }
def LdlExpandUptoCardSaid : Prop := Claim7.holds Tryz.pinned (.plain (OpenSpec.upto ldlExpandSpec)) ldlExpandUptoCard

/-- THE SECOND FORM's CARD OF 'sosoptlaw04.LdlInertiaCongruence'. -/
def ldlInertiaCongruenceUptoCard : Claim7 := { stood := { row := ldlInertiaCongruenceUptoRow, standIns := [], harness := (true, "fa83098a76324d0f2d19666c6e2356dfe1abc2200d6feb33ab6f637114a5f2d9"), looks := false }, kinds := [], alts := [], laidByText := true, laidKinds := [.data, .data, .data], laidTests := true, laidLooks := .later }
def LdlInertiaCongruenceUptoCardSaid : Prop := Claim7.holds Tryz.pinned (.plain (OpenSpec.upto ldlInertiaCongruenceSpec)) ldlInertiaCongruenceUptoCard

/-- THE SECOND FORM's CARD OF 'sosoptlaw04.LdlFactor'. -/
def ldlFactorUptoCard : Claim7 := { stood := { row := ldlFactorUptoRow, standIns := [], harness := (true, "fa83098a76324d0f2d19666c6e2356dfe1abc2200d6feb33ab6f637114a5f2d9"), looks := false }, kinds := [], alts := [], laidByText := true, laidKinds := [.data, .data, .data], laidTests := true, laidLooks := .later }
def LdlFactorUptoCardSaid : Prop := Claim7.holds Tryz.pinned (.plain (OpenSpec.upto ldlFactorSpec)) ldlFactorUptoCard

/-- THE SECOND FORM's CARD OF 'sosoptlaw04.LdlRaw'. -/
def ldlRawUptoCard : Claim7 := { stood := { row := ldlRawUptoRow, standIns := [], harness := (true, "fa83098a76324d0f2d19666c6e2356dfe1abc2200d6feb33ab6f637114a5f2d9"), looks := false }, kinds := [], alts := [], laidByText := true, laidKinds := [.data, .data, .data], laidTests := true, laidLooks := .later }
def LdlRawUptoCardSaid : Prop := Claim7.holds Tryz.pinned (.plain (OpenSpec.upto ldlRawSpec)) ldlRawUptoCard

/-- THE SECOND FORM's CARD OF 'sosoptlaw04.LdlRoundTrip'. -/
def ldlRoundTripUptoCard : Claim7 := { stood := { row := ldlRoundTripUptoRow, standIns := [], harness := (true, "fa83098a76324d0f2d19666c6e2356dfe1abc2200d6feb33ab6f637114a5f2d9"), looks := false }, kinds := [], alts := [], laidByText := true, laidKinds := [.data, .data, .data], laidTests := true, laidLooks := .later }
def LdlRoundTripUptoCardSaid : Prop := Claim7.holds Tryz.pinned (.plain (OpenSpec.upto ldlRoundTripSpec)) ldlRoundTripUptoCard

/-- THE SECOND FORM's CARD OF 'sosoptlaw04.LdlSchur'. -/
def ldlSchurUptoCard : Claim7 := { stood := { row := ldlSchurUptoRow, standIns := [], harness := (true, "fa83098a76324d0f2d19666c6e2356dfe1abc2200d6feb33ab6f637114a5f2d9"), looks := false }, kinds := [], alts := [], laidByText := true, laidKinds := [.data, .data, .data], laidTests := true, laidLooks := .later }
def LdlSchurUptoCardSaid : Prop := Claim7.holds Tryz.pinned (.plain (OpenSpec.upto ldlSchurSpec)) ldlSchurUptoCard
end Rows
end Go.Proofs.YtajkakhfcokljaaGreatDoor
