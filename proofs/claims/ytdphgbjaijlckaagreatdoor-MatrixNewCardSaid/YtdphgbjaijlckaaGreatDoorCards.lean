/-
  DERIVED. GIVEN WITH THE SEED: THE CARDS: each row of YtdphgbjaijlckaaGreatDoorRows.lean that lists a variable, with what it lists TIED to the program's text (the seventh form; the later family's looks); each row that meets fmt, with fmt's text TOLD by the authors' own Lean function (tested against real Go, not proved from fmt's source: count such statements apart). THE CARD IS WHAT COUNTS. Prove the row's statement (the work); the ties are given (YtdphgbjaijlckaaGreatDoorTie.lean); close each card by the builder's one call (the guide's Derived/Test/ToyasCard.lean, 'card_holds'). Laid BY PROGRAM, IN A SANDBOX (cutbox-door.mjs). By AI agents, Wed Nov 11 2026. No macro, syntax, notation, axiom, sorry.
-/
import Derived.Test.YtdphgbjaijlckaaGreatDoorRows
import GoSem.ClaimSeven
namespace Go.Proofs.YtdphgbjaijlckaaGreatDoor
namespace Rows

/-- THE TIED CARD OF 'sosoptlaw20.IntervalRounding'. -/
def intervalRoundingCard : Claim7 := { stood := { row := intervalRoundingRow, standIns := [], harness := (true, "bb1a66ffc97d1820b1e7433440c027d628e036941a9143976b7c8156e5ca164a"), looks := false }, kinds := [], alts := [], laidByText := true, laidKinds := [.data, .data, .data], laidTests := true, laidLooks := .later }
def IntervalRoundingCardSaid : Prop := Claim7.holds Tryz.pinned (.plain (OpenSpec.ofChange intervalRoundingSpec)) intervalRoundingCard

/-- THE TIED CARD OF 'sosoptlaw20.IntervalContains'. -/
def intervalContainsCard : Claim7 := { stood := { row := intervalContainsRow, standIns := [], harness := (true, "bb1a66ffc97d1820b1e7433440c027d628e036941a9143976b7c8156e5ca164a"), looks := false }, kinds := [], alts := [], laidByText := true, laidKinds := [.data, .data, .data], laidTests := true, laidLooks := .later }
def IntervalContainsCardSaid : Prop := Claim7.holds Tryz.pinned (.plain (OpenSpec.ofChange intervalContainsSpec)) intervalContainsCard

/-- THE TIED CARD OF 'sosoptlaw03.MatrixNew'. -/
def matrixNewCard : Claim7 := { stood := { row := matrixNewRow, standIns := [], harness := (true, "bb1a66ffc97d1820b1e7433440c027d628e036941a9143976b7c8156e5ca164a"), looks := false }, kinds := [], alts := [], laidByText := true, laidKinds := [.data, .data, .data], laidTests := true, laidLooks := .later }
def MatrixNewCardSaid : Prop := Claim7.holds Tryz.pinned (.plain (OpenSpec.ofChange matrixNewSpec)) matrixNewCard

/-- THE TIED CARD OF 'sosoptlaw20.IntervalValues'. -/
def intervalValuesCard : Claim7 := { stood := { row := intervalValuesRow, standIns := [], harness := (true, "bb1a66ffc97d1820b1e7433440c027d628e036941a9143976b7c8156e5ca164a"), looks := false }, kinds := [], alts := [], laidByText := true, laidKinds := [.data, .data, .data], laidTests := true, laidLooks := .later }
def IntervalValuesCardSaid : Prop := Claim7.holds Tryz.pinned (.plain (OpenSpec.ofChange intervalValuesSpec)) intervalValuesCard

/-- THE TIED CARD OF 'sosoptlaw28.NearestRefuses'. -/
def nearestRefusesCard : Claim7 := { stood := { row := nearestRefusesRow, standIns := [], harness := (true, "bb1a66ffc97d1820b1e7433440c027d628e036941a9143976b7c8156e5ca164a"), looks := false }, kinds := [], alts := [], laidByText := true, laidKinds := [.data, .data, .data], laidTests := true, laidLooks := .later }
def NearestRefusesCardSaid : Prop := Claim7.holds Tryz.pinned (.plain (OpenSpec.ofChange nearestRefusesSpec)) nearestRefusesCard

/-- THE SECOND FORM's CARD OF 'sosoptlaw20.IntervalRounding'. -/
def intervalRoundingUptoCard : Claim7 := { stood := { row := intervalRoundingUptoRow, standIns := [], harness := (true, "bb1a66ffc97d1820b1e7433440c027d628e036941a9143976b7c8156e5ca164a"), looks := false }, kinds := [], alts := [], laidByText := true, laidKinds := [.data, .data, .data], laidTests := true, laidLooks := .later }
def IntervalRoundingUptoCardSaid : Prop := Claim7.holds Tryz.pinned (.plain (OpenSpec.upto intervalRoundingSpec)) intervalRoundingUptoCard

/-- THE SECOND FORM's CARD OF 'sosoptlaw20.IntervalContains'. -/
def intervalContainsUptoCard : Claim7 := { stood := { row := intervalContainsUptoRow, standIns := [], harness := (true, "bb1a66ffc97d1820b1e7433440c027d628e036941a9143976b7c8156e5ca164a"), looks := false }, kinds := [], alts := [], laidByText := true, laidKinds := [.data, .data, .data], laidTests := true, laidLooks := .later }
def IntervalContainsUptoCardSaid : Prop := Claim7.holds Tryz.pinned (.plain (OpenSpec.upto intervalContainsSpec)) intervalContainsUptoCard

/-- THE SECOND FORM's CARD OF 'sosoptlaw03.MatrixNew'. -/
def matrixNewUptoCard : Claim7 := { stood := { row := matrixNewUptoRow, standIns := [], harness := (true, "bb1a66ffc97d1820b1e7433440c027d628e036941a9143976b7c8156e5ca164a"), looks := false }, kinds := [], alts := [], laidByText := true, laidKinds := [.data, .data, .data], laidTests := true, laidLooks := .later }
def MatrixNewUptoCardSaid : Prop := Claim7.holds Tryz.pinned (.plain (OpenSpec.upto matrixNewSpec)) matrixNewUptoCard

/-- THE SECOND FORM's CARD OF 'sosoptlaw20.IntervalValues'. -/
def intervalValuesUptoCard : Claim7 := { stood := { row := intervalValuesUptoRow, standIns := [], harness := (true, "bb1a66ffc97d1820b1e7433440c027d628e036941a9143976b7c8156e5ca164a"), looks := false }, kinds := [], alts := [], laidByText := true, laidKinds := [.data, .data, .data], laidTests := true, laidLooks := .later }
def IntervalValuesUptoCardSaid : Prop := Claim7.holds Tryz.pinned (.plain (OpenSpec.upto intervalValuesSpec)) intervalValuesUptoCard

/-- THE SECOND FORM's CARD OF 'sosoptlaw28.NearestRefuses'. -/
def nearestRefusesUptoCard : Claim7 := { stood := { row := nearestRefusesUptoRow, standIns := [], harness := (true, "bb1a66ffc97d1820b1e7433440c027d628e036941a9143976b7c8156e5ca164a"), looks := false }, kinds := [], alts := [], laidByText := true, laidKinds := [.data, .data, .data], laidTests := true, laidLooks := .later }
def NearestRefusesUptoCardSaid : Prop := Claim7.holds Tryz.pinned (.plain (OpenSpec.upto nearestRefusesSpec)) nearestRefusesUptoCard
end Rows
end Go.Proofs.YtdphgbjaijlckaaGreatDoor
