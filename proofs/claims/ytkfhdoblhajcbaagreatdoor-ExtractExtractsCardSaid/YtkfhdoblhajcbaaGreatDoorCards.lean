/-
  DERIVED. GIVEN WITH THE SEED: THE CARDS: each row of YtkfhdoblhajcbaaGreatDoorRows.lean that lists a variable, with what it lists TIED to the program's text (the seventh form; the later family's looks); each row that meets fmt, with fmt's text TOLD by the authors' own Lean function (tested against real Go, not proved from fmt's source: count such statements apart). THE CARD IS WHAT COUNTS. Prove the row's statement (the work); the ties are given (YtkfhdoblhajcbaaGreatDoorTie.lean); close each card by the builder's one call (the guide's Derived/Test/ToyasCard.lean, 'card_holds'). Laid BY PROGRAM, IN A SANDBOX (cutbox-door.mjs). By AI agents, Wed Nov 11 2026. No macro, syntax, notation, axiom, sorry.
-/
import Derived.Test.YtkfhdoblhajcbaaGreatDoorRows
import GoSem.ClaimSeven
namespace Go.Proofs.YtkfhdoblhajcbaaGreatDoor
namespace Rows

/-- THE TIED CARD OF 'sosoptlaw36.ExtractRecovers'. -/
def extractRecoversCard : Claim7 := { stood := { row := extractRecoversRow, standIns := [], harness := (true, "57dfcb544a91371478df65743cb62454d040d69326c8089568fb2523ad8699e1"), looks := false }, kinds := [], alts := [], laidByText := true, laidKinds := [.data, .data, .data], laidTests := true, laidLooks := .later }
def ExtractRecoversCardSaid : Prop := Claim7.holds Tryz.pinned (.plain (OpenSpec.ofChange extractRecoversSpec)) extractRecoversCard

/-- THE TIED CARD OF 'sosoptlaw36.ExtractBorder'. -/
def extractBorderCard : Claim7 := { stood := { row := extractBorderRow, standIns := [], harness := (true, "57dfcb544a91371478df65743cb62454d040d69326c8089568fb2523ad8699e1"), looks := false }, kinds := [], alts := [], laidByText := true, laidKinds := [.data, .data, .data], laidTests := true, laidLooks := .later }
def ExtractBorderCardSaid : Prop := Claim7.holds Tryz.pinned (.plain (OpenSpec.ofChange extractBorderSpec)) extractBorderCard

/-- THE TIED CARD OF 'sosoptlaw36.ExtractCommutes'. -/
def extractCommutesCard : Claim7 := { stood := { row := extractCommutesRow, standIns := [], harness := (true, "57dfcb544a91371478df65743cb62454d040d69326c8089568fb2523ad8699e1"), looks := false }, kinds := [], alts := [], laidByText := true, laidKinds := [.data, .data, .data], laidTests := true, laidLooks := .later }
def ExtractCommutesCardSaid : Prop := Claim7.holds Tryz.pinned (.plain (OpenSpec.ofChange extractCommutesSpec)) extractCommutesCard

/-- THE TIED CARD OF 'sosoptlaw36.ExtractExtracts'. -/
def extractExtractsCard : Claim7 := { stood := { row := extractExtractsRow, standIns := [], harness := (true, "57dfcb544a91371478df65743cb62454d040d69326c8089568fb2523ad8699e1"), looks := false }, kinds := [], alts := [], laidByText := true, laidKinds := [.data, .data, .data], laidTests := true, laidLooks := .later }
def ExtractExtractsCardSaid : Prop := Claim7.holds Tryz.pinned (.plain (OpenSpec.ofChange extractExtractsSpec)) extractExtractsCard

/-- THE SECOND FORM's CARD OF 'sosoptlaw36.ExtractRecovers'. -/
def extractRecoversUptoCard : Claim7 := { stood := { row := extractRecoversUptoRow, standIns := [], harness := (true, "57dfcb544a91371478df65743cb62454d040d69326c8089568fb2523ad8699e1"), looks := false }, kinds := [], alts := [], laidByText := true, laidKinds := [.data, .data, .data], laidTests := true, laidLooks := .later }
def ExtractRecoversUptoCardSaid : Prop := Claim7.holds Tryz.pinned (.plain (OpenSpec.upto extractRecoversSpec)) extractRecoversUptoCard

/-- THE SECOND FORM's CARD OF 'sosoptlaw36.ExtractBorder'. -/
def extractBorderUptoCard : Claim7 := { stood := { row := extractBorderUptoRow, standIns := [], harness := (true, "57dfcb544a91371478df65743cb62454d040d69326c8089568fb2523ad8699e1"), looks := false }, kinds := [], alts := [], laidByText := true, laidKinds := [.data, .data, .data], laidTests := true, laidLooks := .later }
def ExtractBorderUptoCardSaid : Prop := Claim7.holds Tryz.pinned (.plain (OpenSpec.upto extractBorderSpec)) extractBorderUptoCard

/-- THE SECOND FORM's CARD OF 'sosoptlaw36.ExtractCommutes'. -/
def extractCommutesUptoCard : Claim7 := { stood := { row := extractCommutesUptoRow, standIns := [], harness := (true, "57dfcb544a91371478df65743cb62454d040d69326c8089568fb2523ad8699e1"), looks := false }, kinds := [], alts := [], laidByText := true, laidKinds := [.data, .data, .data], laidTests := true, laidLooks := .later }
def ExtractCommutesUptoCardSaid : Prop := Claim7.holds Tryz.pinned (.plain (OpenSpec.upto extractCommutesSpec)) extractCommutesUptoCard

/-- THE SECOND FORM's CARD OF 'sosoptlaw36.ExtractExtracts'. -/
def extractExtractsUptoCard : Claim7 := { stood := { row := extractExtractsUptoRow, standIns := [], harness := (true, "57dfcb544a91371478df65743cb62454d040d69326c8089568fb2523ad8699e1"), looks := false }, kinds := [], alts := [], laidByText := true, laidKinds := [.data, .data, .data], laidTests := true, laidLooks := .later }
def ExtractExtractsUptoCardSaid : Prop := Claim7.holds Tryz.pinned (.plain (OpenSpec.upto extractExtractsSpec)) extractExtractsUptoCard
end Rows
end Go.Proofs.YtkfhdoblhajcbaaGreatDoor
