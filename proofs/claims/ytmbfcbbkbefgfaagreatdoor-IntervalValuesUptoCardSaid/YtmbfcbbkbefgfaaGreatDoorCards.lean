/-
  DERIVED. GIVEN WITH THE SEED: THE CARDS: each row of YtmbfcbbkbefgfaaGreatDoorRows.lean that lists a variable, with what it lists TIED to the program's text (the seventh form; the later family's looks); each row that meets fmt, with fmt's text TOLD by the authors' own Lean function (tested against real Go, not proved from fmt's source: count such statements apart). THE CARD IS WHAT COUNTS. Prove the row's statement (the work); the ties are given (YtmbfcbbkbefgfaaGreatDoorTie.lean); close each card by the builder's one call (the guide's Derived/Test/ToyasCard.lean, 'card_holds'). Laid BY PROGRAM, IN A SANDBOX (cutbox-door.mjs). By AI agents, Wed Nov 11 2026. No macro, syntax, notation, axiom, sorry.
-/
import Derived.Test.YtmbfcbbkbefgfaaGreatDoorRows
import GoSem.ClaimSeven
namespace Go.Proofs.YtmbfcbbkbefgfaaGreatDoor
namespace Rows

/-- THE TIED CARD OF 'sosoptlaw20.IntervalEval'. -/
def intervalEvalCard : Claim7 := { stood := { row := intervalEvalRow, standIns := [], harness := (true, "6e62ed7d29b403e40a81524ca7a1407d446e32103c75d8515985f94da8aac1ae"), looks := false }, kinds := [], alts := [], laidByText := true, laidKinds := [.data, .data, .data], laidTests := true, laidLooks := .later }
def IntervalEvalCardSaid : Prop := Claim7.holds Tryz.pinned (.plain (OpenSpec.ofChange intervalEvalSpec)) intervalEvalCard

/-- THE TIED CARD OF 'sosoptlaw04.LdlFactor'. -/
def ldlFactorCard : Claim7 := { stood := { row := ldlFactorRow, standIns := [], harness := (true, "6e62ed7d29b403e40a81524ca7a1407d446e32103c75d8515985f94da8aac1ae"), looks := false }, kinds := [], alts := [], laidByText := true, laidKinds := [.data, .data, .data], laidTests := true, laidLooks := .later }
def LdlFactorCardSaid : Prop := Claim7.holds Tryz.pinned (.plain (OpenSpec.ofChange ldlFactorSpec)) ldlFactorCard

/-- THE TIED CARD OF 'sosoptlaw04.LdlRaw'. -/
def ldlRawCard : Claim7 := { stood := { row := ldlRawRow, standIns := [], harness := (true, "6e62ed7d29b403e40a81524ca7a1407d446e32103c75d8515985f94da8aac1ae"), looks := false }, kinds := [], alts := [], laidByText := true, laidKinds := [.data, .data, .data], laidTests := true, laidLooks := .later }
def LdlRawCardSaid : Prop := Claim7.holds Tryz.pinned (.plain (OpenSpec.ofChange ldlRawSpec)) ldlRawCard

/-- THE TIED CARD OF 'sosoptlaw20.IntervalValues'. -/
def intervalValuesCard : Claim7 := { stood := { row := intervalValuesRow, standIns := [], harness := (true, "6e62ed7d29b403e40a81524ca7a1407d446e32103c75d8515985f94da8aac1ae"), looks := false }, kinds := [], alts := [], laidByText := true, laidKinds := [.data, .data, .data], laidTests := true, laidLooks := .later }
def IntervalValuesCardSaid : Prop := Claim7.holds Tryz.pinned (.plain (OpenSpec.ofChange intervalValuesSpec)) intervalValuesCard

/-- THE TIED CARD OF 'sosoptlaw28.NearestProjects'. -/
def nearestProjectsCard : Claim7 := { stood := { row := nearestProjectsRow, standIns := [], harness := (true, "6e62ed7d29b403e40a81524ca7a1407d446e32103c75d8515985f94da8aac1ae"), looks := false }, kinds := [], alts := [], laidByText := true, laidKinds := [.data, .data, .data], laidTests := true, laidLooks := .later }
def NearestProjectsCardSaid : Prop := Claim7.holds Tryz.pinned (.plain (OpenSpec.ofChange nearestProjectsSpec)) nearestProjectsCard

/-- THE TIED CARD OF 'sosoptlaw28.NearestProjected'. -/
def nearestProjectedCard : Claim7 := { stood := { row := nearestProjectedRow, standIns := [], harness := (true, "6e62ed7d29b403e40a81524ca7a1407d446e32103c75d8515985f94da8aac1ae"), looks := false }, kinds := [], alts := [], laidByText := true, laidKinds := [.data, .data, .data], laidTests := true, laidLooks := .later }
def NearestProjectedCardSaid : Prop := Claim7.holds Tryz.pinned (.plain (OpenSpec.ofChange nearestProjectedSpec)) nearestProjectedCard

/-- THE TIED CARD OF 'sosoptlaw28.NearestRefuses'. -/
def nearestRefusesCard : Claim7 := { stood := { row := nearestRefusesRow, standIns := [], harness := (true, "6e62ed7d29b403e40a81524ca7a1407d446e32103c75d8515985f94da8aac1ae"), looks := false }, kinds := [], alts := [], laidByText := true, laidKinds := [.data, .data, .data], laidTests := true, laidLooks := .later }
def NearestRefusesCardSaid : Prop := Claim7.holds Tryz.pinned (.plain (OpenSpec.ofChange nearestRefusesSpec)) nearestRefusesCard

/-- THE SECOND FORM's CARD OF 'sosoptlaw20.IntervalEval'. -/
def intervalEvalUptoCard : Claim7 := { stood := { row := intervalEvalUptoRow, standIns := [], harness := (true, "6e62ed7d29b403e40a81524ca7a1407d446e32103c75d8515985f94da8aac1ae"), looks := false }, kinds := [], alts := [], laidByText := true, laidKinds := [.data, .data, .data], laidTests := true, laidLooks := .later }
def IntervalEvalUptoCardSaid : Prop := Claim7.holds Tryz.pinned (.plain (OpenSpec.upto intervalEvalSpec)) intervalEvalUptoCard

/-- THE SECOND FORM's CARD OF 'sosoptlaw04.LdlFactor'. -/
def ldlFactorUptoCard : Claim7 := { stood := { row := ldlFactorUptoRow, standIns := [], harness := (true, "6e62ed7d29b403e40a81524ca7a1407d446e32103c75d8515985f94da8aac1ae"), looks := false }, kinds := [], alts := [], laidByText := true, laidKinds := [.data, .data, .data], laidTests := true, laidLooks := .later }
def LdlFactorUptoCardSaid : Prop := Claim7.holds Tryz.pinned (.plain (OpenSpec.upto ldlFactorSpec)) ldlFactorUptoCard

/-- THE SECOND FORM's CARD OF 'sosoptlaw04.LdlRaw'. -/
def ldlRawUptoCard : Claim7 := { stood := { row := ldlRawUptoRow, standIns := [], harness := (true, "6e62ed7d29b403e40a81524ca7a1407d446e32103c75d8515985f94da8aac1ae"), looks := false }, kinds := [], alts := [], laidByText := true, laidKinds := [.data, .data, .data], laidTests := true, laidLooks := .later }
def LdlRawUptoCardSaid : Prop := Claim7.holds Tryz.pinned (.plain (OpenSpec.upto ldlRawSpec)) ldlRawUptoCard

/-- THE SECOND FORM's CARD OF 'sosoptlaw20.IntervalValues'. -/
def intervalValuesUptoCard : Claim7 := { stood := { row := intervalValuesUptoRow, standIns := [], harness := (true, "6e62ed7d29b403e40a81524ca7a1407d446e32103c75d8515985f94da8aac1ae"), looks := false }, kinds := [], alts := [], laidByText := true, laidKinds := [.data, .data, .data], laidTests := true, laidLooks := .later }
def IntervalValuesUptoCardSaid : Prop := Claim7.holds Tryz.pinned (.plain (OpenSpec.upto intervalValuesSpec)) intervalValuesUptoCard

/-- THE SECOND FORM's CARD OF 'sosoptlaw28.NearestProjects'. -/
def nearestProjectsUptoCard : Claim7 := { stood := { row := nearestProjectsUptoRow, standIns := [], harness := (true, "6e62ed7d29b403e40a81524ca7a1407d446e32103c75d8515985f94da8aac1ae"), looks := false }, kinds := [], alts := [], laidByText := true, laidKinds := [.data, .data, .data], laidTests := true, laidLooks := .later }
def NearestProjectsUptoCardSaid : Prop := Claim7.holds Tryz.pinned (.plain (OpenSpec.upto nearestProjectsSpec)) nearestProjectsUptoCard

/-- THE SECOND FORM's CARD OF 'sosoptlaw28.NearestProjected'. -/
def nearestProjectedUptoCard : Claim7 := { stood := { row := nearestProjectedUptoRow, standIns := [], harness := (true, "6e62ed7d29b403e40a81524ca7a1407d446e32103c75d8515985f94da8aac1ae"), looks := false }, kinds := [], alts := [], laidByText := true, laidKinds := [.data, .data, .data], laidTests := true, laidLooks := .later }
def NearestProjectedUptoCardSaid : Prop := Claim7.holds Tryz.pinned (.plain (OpenSpec.upto nearestProjectedSpec)) nearestProjectedUptoCard

/-- THE SECOND FORM's CARD OF 'sosoptlaw28.NearestRefuses'. -/
def nearestRefusesUptoCard : Claim7 := { stood := { row := nearestRefusesUptoRow, standIns := [], harness := (true, "6e62ed7d29b403e40a81524ca7a1407d446e32103c75d8515985f94da8aac1ae"), looks := false }, kinds := [], alts := [], laidByText := true, laidKinds := [.data, .data, .data], laidTests := true, laidLooks := .later }
def NearestRefusesUptoCardSaid : Prop := Claim7.holds Tryz.pinned (.plain (OpenSpec.upto nearestRefusesSpec)) nearestRefusesUptoCard
end Rows
end Go.Proofs.YtmbfcbbkbefgfaaGreatDoor
