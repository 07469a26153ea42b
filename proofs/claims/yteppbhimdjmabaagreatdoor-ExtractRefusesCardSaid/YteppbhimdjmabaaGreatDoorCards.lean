/-
  DERIVED. GIVEN WITH THE SEED: THE CARDS: each row of YteppbhimdjmabaaGreatDoorRows.lean that lists a variable, with what it lists TIED to the program's text (the seventh form; the later family's looks); each row that meets fmt, with fmt's text TOLD by the authors' own Lean function (tested against real Go, not proved from fmt's source: count such statements apart). THE CARD IS WHAT COUNTS. Prove the row's statement (the work); the ties are given (YteppbhimdjmabaaGreatDoorTie.lean); close each card by the builder's one call (the guide's Derived/Test/ToyasCard.lean, 'card_holds'). Laid BY PROGRAM, IN A SANDBOX (cutbox-door.mjs). By AI agents, Wed Nov 11 2026. No macro, syntax, notation, axiom, sorry.
-/
import Derived.Test.YteppbhimdjmabaaGreatDoorRows
import GoSem.ClaimSeven
namespace Go.Proofs.YteppbhimdjmabaaGreatDoor
namespace Rows

/-- THE TIED CARD OF 'sosoptlaw36.ExtractRefuses'. -/
def extractRefusesCard : Claim7 := { stood := { row := extractRefusesRow, standIns := [], harness := (true, "dd2c9605c18d7da8e67c8694e0cdc5e61b27b1ed90e743175a6be698183dc1c6"), looks := false }, kinds := [], alts := [], laidByText := true, laidKinds := [.data, .data, .data], laidTests := true, laidLooks := .later }
def ExtractRefusesCardSaid : Prop := Claim7.holds Tryz.pinned (.plain (OpenSpec.ofChange extractRefusesSpec)) extractRefusesCard

/-- THE SECOND FORM's CARD OF 'sosoptlaw36.ExtractRefuses'. -/
def extractRefusesUptoCard : Claim7 := { stood := { row := extractRefusesUptoRow, standIns := [], harness := (true, "dd2c9605c18d7da8e67c8694e0cdc5e61b27b1ed90e743175a6be698183dc1c6"), looks := false }, kinds := [], alts := [], laidByText := true, laidKinds := [.data, .data, .data], laidTests := true, laidLooks := .later }
def ExtractRefusesUptoCardSaid : Prop := Claim7.holds Tryz.pinned (.plain (OpenSpec.upto extractRefusesSpec)) extractRefusesUptoCard
end Rows
end Go.Proofs.YteppbhimdjmabaaGreatDoor
