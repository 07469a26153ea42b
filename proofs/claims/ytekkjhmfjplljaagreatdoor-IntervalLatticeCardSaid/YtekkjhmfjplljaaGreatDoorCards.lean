/-
  DERIVED. GIVEN WITH THE SEED: THE CARDS: each row of YtekkjhmfjplljaaGreatDoorRows.lean that lists a variable, with what it lists TIED to the program's text (the seventh form; the later family's looks); each row that meets fmt, with fmt's text TOLD by the authors' own Lean function (tested against real Go, not proved from fmt's source: count such statements apart). THE CARD IS WHAT COUNTS. Prove the row's statement (the work); the ties are given (YtekkjhmfjplljaaGreatDoorTie.lean); close each card by the builder's one call (the guide's Derived/Test/ToyasCard.lean, 'card_holds'). Laid BY PROGRAM, IN A SANDBOX (cutbox-door.mjs). By AI agents, Wed Nov 11 2026. No macro, syntax, notation, axiom, sorry.
-/
import Derived.Test.YtekkjhmfjplljaaGreatDoorRows
import GoSem.ClaimSeven
namespace Go.Proofs.YtekkjhmfjplljaaGreatDoor
namespace Rows

/-- THE TIED CARD OF 'sosoptlaw20.IntervalPow'. -/
def intervalPowCard : Claim7 := { stood := { row := intervalPowRow, standIns := [], harness := (true, "8366aa7300cb4107173cc1f05d79348755888668ff9b35d81d6b30ac9305aa91"), looks := false }, kinds := [], alts := [], laidByText := true, laidKinds := [.data, .data, .data], laidTests := true, laidLooks := .later }
def IntervalPowCardSaid : Prop := Claim7.holds Tryz.pinned (.plain (OpenSpec.ofChange intervalPowSpec)) intervalPowCard

/-- THE TIED CARD OF 'sosoptlaw20.IntervalLattice'. -/
def intervalLatticeCard : Claim7 := { stood := { row := intervalLatticeRow, standIns := [], harness := (true, "8366aa7300cb4107173cc1f05d79348755888668ff9b35d81d6b30ac9305aa91"), looks := false }, kinds := [], alts := [], laidByText := true, laidKinds := [.data, .data, .data], laidTests := true, laidLooks := .later }
def IntervalLatticeCardSaid : Prop := Claim7.holds Tryz.pinned (.plain (OpenSpec.ofChange intervalLatticeSpec)) intervalLatticeCard

/-- THE TIED CARD OF 'sosoptlaw20.IntervalRounding'. -/
def intervalRoundingCard : Claim7 := { stood := { row := intervalRoundingRow, standIns := [], harness := (true, "8366aa7300cb4107173cc1f05d79348755888668ff9b35d81d6b30ac9305aa91"), looks := false }, kinds := [], alts := [], laidByText := true, laidKinds := [.data, .data, .data], laidTests := true, laidLooks := .later }
def IntervalRoundingCardSaid : Prop := Claim7.holds Tryz.pinned (.plain (OpenSpec.ofChange intervalRoundingSpec)) intervalRoundingCard

/-- THE TIED CARD OF 'sosoptlaw20.IntervalBasics'. -/
def intervalBasicsCard : Claim7 := { stood := { row := intervalBasicsRow, standIns := [], harness := (true, "8366aa7300cb4107173cc1f05d79348755888668ff9b35d81d6b30ac9305aa91"), looks := false }, kinds := [], alts := [], laidByText := true, laidKinds := [.data, .data, .data], laidTests := true, laidLooks := .later }
def IntervalBasicsCardSaid : Prop := Claim7.holds Tryz.pinned (.plain (OpenSpec.ofChange intervalBasicsSpec)) intervalBasicsCard

/-- THE TIED CARD OF 'sosoptlaw20.IntervalContains'. -/
def intervalContainsCard : Claim7 := { stood := { row := intervalContainsRow, standIns := [], harness := (true, "8366aa7300cb4107173cc1f05d79348755888668ff9b35d81d6b30ac9305aa91"), looks := false }, kinds := [], alts := [], laidByText := true, laidKinds := [.data, .data, .data], laidTests := true, laidLooks := .later }
def IntervalContainsCardSaid : Prop := Claim7.holds Tryz.pinned (.plain (OpenSpec.ofChange intervalContainsSpec)) intervalContainsCard

/-- THE TIED CARD OF 'sosoptlaw20.IntervalArithmetic'. -/
def intervalArithmeticCard : Claim7 := { stood := { row := intervalArithmeticRow, standIns := [], harness := (true, "8366aa7300cb4107173cc1f05d79348755888668ff9b35d81d6b30ac9305aa91"), looks := false }, kinds := [], alts := [], laidByText := true, laidKinds := [.data, .data, .data], laidTests := true, laidLooks := .later }
def IntervalArithmeticCardSaid : Prop := Claim7.holds Tryz.pinned (.plain (OpenSpec.ofChange intervalArithmeticSpec)) intervalArithmeticCard

/-- THE TIED CARD OF 'sosoptlaw20.IntervalEval'. -/
def intervalEvalCard : Claim7 := { stood := { row := intervalEvalRow, standIns := [], harness := (true, "8366aa7300cb4107173cc1f05d79348755888668ff9b35d81d6b30ac9305aa91"), looks := false }, kinds := [], alts := [], laidByText := true, laidKinds := [.data, .data, .data], laidTests := true, laidLooks := .later }
def IntervalEvalCardSaid : Prop := Claim7.holds Tryz.pinned (.plain (OpenSpec.ofChange intervalEvalSpec)) intervalEvalCard

/-- THE TIED CARD OF 'sosoptlaw20.IntervalValues'. -/
def intervalValuesCard : Claim7 := { stood := { row := intervalValuesRow, standIns := [], harness := (true, "8366aa7300cb4107173cc1f05d79348755888668ff9b35d81d6b30ac9305aa91"), looks := false }, kinds := [], alts := [], laidByText := true, laidKinds := [.data, .data, .data], laidTests := true, laidLooks := .later }
def IntervalValuesCardSaid : Prop := Claim7.holds Tryz.pinned (.plain (OpenSpec.ofChange intervalValuesSpec)) intervalValuesCard

/-- THE SECOND FORM's CARD OF 'sosoptlaw20.IntervalPow'. -/
def intervalPowUptoCard : Claim7 := { stood := { row := intervalPowUptoRow, standIns := [], harness := (true, "8366aa7300cb4107173cc1f05d79348755888668ff9b35d81d6b30ac9305aa91"), looks := false }, kinds := [], alts := [], laidByText := true, laidKinds := [.data, .data, .data], laidTests := true, laidLooks := .later }
def IntervalPowUptoCardSaid : Prop := Claim7.holds Tryz.pinned (.plain (OpenSpec.upto intervalPowSpec)) intervalPowUptoCard

/-- THE SECOND FORM's CARD OF 'sosoptlaw20.IntervalLattice'. -/
def intervalLatticeUptoCard : Claim7 := { stood := { row := intervalLatticeUptoRow, standIns := [], harness := (true, "8366aa7300cb4107173cc1f05d79348755888668ff9b35d81d6b30ac9305aa91"), looks := false }, kinds := [], alts := [], laidByText := true, laidKinds := [.data, .data, .data], laidTests := true, laidLooks := .later }
def IntervalLatticeUptoCardSaid : Prop := Claim7.holds Tryz.pinned (.plain (OpenSpec.upto intervalLatticeSpec)) intervalLatticeUptoCard

/-- THE SECOND FORM's CARD OF 'sosoptlaw20.IntervalRounding'. -/
def intervalRoundingUptoCard : Claim7 := { stood := { row := intervalRoundingUptoRow, standIns := [], harness := (true, "8366aa7300cb4107173cc1f05d79348755888668ff9b35d81d6b30ac9305aa91"), looks := false }, kinds := [], alts := [], laidByText := true, laidKinds := [.data, .data, .data], laidTests := true, laidLooks := .later }
def IntervalRoundingUptoCardSaid : Prop := Claim7.holds Tryz.pinned (.plain (OpenSpec.upto intervalRoundingSpec)) intervalRoundingUptoCard

/-- THE SECOND FORM's CARD OF 'sosoptlaw20.IntervalBasics'. -/
def intervalBasicsUptoCard : Claim7 := { stood := { row := intervalBasicsUptoRow, standIns := [], harness := (true, "8366aa7300cb4107173cc1f05d79348755888668ff9b35d81d6b30ac9305aa91"), looks := false }, kinds := [], alts := [], laidByText := true, laidKinds := [.data, .data, .data], laidTests := true, laidLooks := .later }
def IntervalBasicsUptoCardSaid : Prop := Claim7.holds Tryz.pinned (.plain (OpenSpec.upto intervalBasicsSpec)) intervalBasicsUptoCard

/-- THE SECOND FORM's CARD OF 'sosoptlaw20.IntervalContains'. -/
def intervalContainsUptoCard : Claim7 := { stood := { row := intervalContainsUptoRow, standIns := [], harness := (true, "8366aa7300cb4107173cc1f05d79348755888668ff9b35d81d6b30ac9305aa91"), looks := false }, kinds := [], alts := [], laidByText := true, laidKinds := [.data, .data, .data], laidTests := true, laidLooks := .later }
def IntervalContainsUptoCardSaid : Prop := Claim7.holds Tryz.pinned (.plain (OpenSpec.upto intervalContainsSpec)) intervalContainsUptoCard

/-- THE SECOND FORM's CARD OF 'sosoptlaw20.IntervalArithmetic'. -/
def intervalArithmeticUptoCard : Claim7 := { stood := { row := intervalArithmeticUptoRow, standIns := [], harness := (true, "8366aa7300cb4107173cc1f05d79348755888668ff9b35d81d6b30ac9305aa91"), looks := false }, kinds := [], alts := [], laidByText := true, laidKinds := [.data, .data, .data], laidTests := true, laidLooks := .later }
def IntervalArithmeticUptoCardSaid : Prop := Claim7.holds Tryz.pinned (.plain (OpenSpec.upto intervalArithmeticSpec)) intervalArithmeticUptoCard

/-- THE SECOND FORM's CARD OF 'sosoptlaw20.IntervalEval'. -/
def intervalEvalUptoCard : Claim7 := { stood := { row := intervalEvalUptoRow, standIns := [], harness := (true, "8366aa7300cb4107173cc1f05d79348755888668ff9b35d81d6b30ac9305aa91"), looks := false }, kinds := [], alts := [], laidByText := true, laidKinds := [.data, .data, .data], laidTests := true, laidLooks := .later }
def IntervalEvalUptoCardSaid : Prop := Claim7.holds Tryz.pinned (.plain (OpenSpec.upto intervalEvalSpec)) intervalEvalUptoCard

/-- THE SECOND FORM's CARD OF 'sosoptlaw20.IntervalValues'. -/
def intervalValuesUptoCard : Claim7 := { stood := { row := intervalValuesUptoRow, standIns := [], harness := (true, "8366aa7300cb4107173cc1f05d79348755888668ff9b35d81d6b30ac9305aa91"), looks := false }, kinds := [], alts := [], laidByText := true, laidKinds := [.data, .data, .data], laidTests := true, laidLooks := .later }
def IntervalValuesUptoCardSaid : Prop := Claim7.holds Tryz.pinned (.plain (OpenSpec.upto intervalValuesSpec)) intervalValuesUptoCard
end Rows
end Go.Proofs.YtekkjhmfjplljaaGreatDoor
