/-
  DERIVED. GIVEN WITH THE SEED: THE CARDS: each row of YtgnclfejnndicaaGreatDoorRows.lean that lists a variable, with what it lists TIED to the program's text (the seventh form; the later family's looks); each row that meets fmt, with fmt's text TOLD by the authors' own Lean function (tested against real Go, not proved from fmt's source: count such statements apart). THE CARD IS WHAT COUNTS. Prove the row's statement (the work); the ties are given (YtgnclfejnndicaaGreatDoorTie.lean); close each card by the builder's one call (the guide's Derived/Test/ToyasCard.lean, 'card_holds'). Laid BY PROGRAM, IN A SANDBOX (cutbox-door.mjs). By AI agents, Wed Nov 11 2026. No macro, syntax, notation, axiom, sorry.
-/
import Derived.Test.YtgnclfejnndicaaGreatDoorRows
import GoSem.ClaimSeven
namespace Go.Proofs.YtgnclfejnndicaaGreatDoor
namespace Rows

/-- THE TIED CARD OF 'sosoptlaw28.NearestSimplest'. -/
def nearestSimplestCard : Claim7 := { stood := { row := nearestSimplestRow, standIns := [], harness := (true, "290c43ee86b224c2551fb651b72366bed51933f30ea60cba4a715938dac8f92e"), looks := false }, kinds := [], alts := [], laidByText := true, laidKinds := [.data, .data, .data], laidTests := true, laidLooks := .later }
def NearestSimplestCardSaid : Prop := Claim7.holds Tryz.pinned (.plain (OpenSpec.ofChange nearestSimplestSpec)) nearestSimplestCard

/-- THE TIED CARD OF 'sosoptlaw28.NearestLeast'. -/
def nearestLeastCard : Claim7 := { stood := { row := nearestLeastRow, standIns := [], harness := (true, "290c43ee86b224c2551fb651b72366bed51933f30ea60cba4a715938dac8f92e"), looks := false }, kinds := [], alts := [], laidByText := true, laidKinds := [.data, .data, .data], laidTests := true, laidLooks := .later }
def NearestLeastCardSaid : Prop := Claim7.holds Tryz.pinned (.plain (OpenSpec.ofChange nearestLeastSpec)) nearestLeastCard

/-- THE TIED CARD OF 'sosoptlaw28.NearestConverges'. -/
def nearestConvergesCard : Claim7 := { stood := { row := nearestConvergesRow, standIns := [], harness := (true, "290c43ee86b224c2551fb651b72366bed51933f30ea60cba4a715938dac8f92e"), looks := false }, kinds := [], alts := [], laidByText := true, laidKinds := [.data, .data, .data], laidTests := true, laidLooks := .later }
def NearestConvergesCardSaid : Prop := Claim7.holds Tryz.pinned (.plain (OpenSpec.ofChange nearestConvergesSpec)) nearestConvergesCard

/-- THE TIED CARD OF 'sosoptlaw28.NearestQuotients'. -/
def nearestQuotientsCard : Claim7 := { stood := { row := nearestQuotientsRow, standIns := [], harness := (true, "290c43ee86b224c2551fb651b72366bed51933f30ea60cba4a715938dac8f92e"), looks := false }, kinds := [], alts := [], laidByText := true, laidKinds := [.data, .data, .data], laidTests := true, laidLooks := .later }
def NearestQuotientsCardSaid : Prop := Claim7.holds Tryz.pinned (.plain (OpenSpec.ofChange nearestQuotientsSpec)) nearestQuotientsCard

/-- THE TIED CARD OF 'sosoptlaw28.NearestDyadic'. -/
def nearestDyadicCard : Claim7 := { stood := { row := nearestDyadicRow, standIns := [], harness := (true, "290c43ee86b224c2551fb651b72366bed51933f30ea60cba4a715938dac8f92e"), looks := false }, kinds := [], alts := [], laidByText := true, laidKinds := [.data, .data, .data], laidTests := true, laidLooks := .later }
def NearestDyadicCardSaid : Prop := Claim7.holds Tryz.pinned (.plain (OpenSpec.ofChange nearestDyadicSpec)) nearestDyadicCard

/-- THE TIED CARD OF 'sosoptlaw28.NearestBest'. -/
def nearestBestCard : Claim7 := { stood := { row := nearestBestRow, standIns := [], harness := (true, "290c43ee86b224c2551fb651b72366bed51933f30ea60cba4a715938dac8f92e"), looks := false }, kinds := [], alts := [], laidByText := true, laidKinds := [.data, .data, .data], laidTests := true, laidLooks := .later }
def NearestBestCardSaid : Prop := Claim7.holds Tryz.pinned (.plain (OpenSpec.ofChange nearestBestSpec)) nearestBestCard

/-- THE TIED CARD OF 'sosoptlaw28.NearestOwn'. -/
def nearestOwnCard : Claim7 := { stood := { row := nearestOwnRow, standIns := [], harness := (true, "290c43ee86b224c2551fb651b72366bed51933f30ea60cba4a715938dac8f92e"), looks := false }, kinds := [], alts := [], laidByText := true, laidKinds := [.data, .data, .data], laidTests := true, laidLooks := .later }
def NearestOwnCardSaid : Prop := Claim7.holds Tryz.pinned (.plain (OpenSpec.ofChange nearestOwnSpec)) nearestOwnCard

/-- THE TIED CARD OF 'sosoptlaw28.NearestProjects'. -/
def nearestProjectsCard : Claim7 := { stood := { row := nearestProjectsRow, standIns := [], harness := (true, "290c43ee86b224c2551fb651b72366bed51933f30ea60cba4a715938dac8f92e"), looks := false }, kinds := [], alts := [], laidByText := true, laidKinds := [.data, .data, .data], laidTests := true, laidLooks := .later }
def NearestProjectsCardSaid : Prop := Claim7.holds Tryz.pinned (.plain (OpenSpec.ofChange nearestProjectsSpec)) nearestProjectsCard

/-- THE TIED CARD OF 'sosoptlaw28.NearestProjected'. -/
def nearestProjectedCard : Claim7 := { stood := { row := nearestProjectedRow, standIns := [], harness := (true, "290c43ee86b224c2551fb651b72366bed51933f30ea60cba4a715938dac8f92e"), looks := false }, kinds := [], alts := [], laidByText := true, laidKinds := [.data, .data, .data], laidTests := true, laidLooks := .later }
def NearestProjectedCardSaid : Prop := Claim7.holds Tryz.pinned (.plain (OpenSpec.ofChange nearestProjectedSpec)) nearestProjectedCard

/-- THE TIED CARD OF 'sosoptlaw28.NearestRefuses'. -/
def nearestRefusesCard : Claim7 := { stood := { row := nearestRefusesRow, standIns := [], harness := (true, "290c43ee86b224c2551fb651b72366bed51933f30ea60cba4a715938dac8f92e"), looks := false }, kinds := [], alts := [], laidByText := true, laidKinds := [.data, .data, .data], laidTests := true, laidLooks := .later }
def NearestRefusesCardSaid : Prop := Claim7.holds Tryz.pinned (.plain (OpenSpec.ofChange nearestRefusesSpec)) nearestRefusesCard

/-- THE SECOND FORM's CARD OF 'sosoptlaw28.NearestSimplest'. -/
def nearestSimplestUptoCard : Claim7 := { stood := { row := nearestSimplestUptoRow, standIns := [], harness := (true, "290c43ee86b224c2551fb651b72366bed51933f30ea60cba4a715938dac8f92e"), looks := false }, kinds := [], alts := [], laidByText := true, laidKinds := [.data, .data, .data], laidTests := true, laidLooks := .later }
def NearestSimplestUptoCardSaid : Prop := Claim7.holds Tryz.pinned (.plain (OpenSpec.upto nearestSimplestSpec)) nearestSimplestUptoCard

/-- THE SECOND FORM's CARD OF 'sosoptlaw28.NearestLeast'. -/
def nearestLeastUptoCard : Claim7 := { stood := { row := nearestLeastUptoRow, standIns := [], harness := (true, "290c43ee86b224c2551fb651b72366bed51933f30ea60cba4a715938dac8f92e"), looks := false }, kinds := [], alts := [], laidByText := true, laidKinds := [.data, .data, .data], laidTests := true, laidLooks := .later }
def NearestLeastUptoCardSaid : Prop := Claim7.holds Tryz.pinned (.plain (OpenSpec.upto nearestLeastSpec)) nearestLeastUptoCard

/-- THE SECOND FORM's CARD OF 'sosoptlaw28.NearestConverges'. -/
def nearestConvergesUptoCard : Claim7 := { stood := { row := nearestConvergesUptoRow, standIns := [], harness := (true, "290c43ee86b224c2551fb651b72366bed51933f30ea60cba4a715938dac8f92e"), looks := false }, kinds := [], alts := [], laidByText := true, laidKinds := [.data, .data, .data], laidTests := true, laidLooks := .later }
def NearestConvergesUptoCardSaid : Prop := Claim7.holds Tryz.pinned (.plain (OpenSpec.upto nearestConvergesSpec)) nearestConvergesUptoCard

/-- THE SECOND FORM's CARD OF 'sosoptlaw28.NearestQuotients'. -/
def nearestQuotientsUptoCard : Claim7 := { stood := { row := nearestQuotientsUptoRow, standIns := [], harness := (true, "290c43ee86b224c2551fb651b72366bed51933f30ea60cba4a715938dac8f92e"), looks := false }, kinds := [], alts := [], laidByText := true, laidKinds := [.data, .data, .data], laidTests := true, laidLooks := .later }
def NearestQuotientsUptoCardSaid : Prop := Claim7.holds Tryz.pinned (.plain (OpenSpec.upto nearestQuotientsSpec)) nearestQuotientsUptoCard

/-- THE SECOND FORM's CARD OF 'sosoptlaw28.NearestDyadic'. -/
def nearestDyadicUptoCard : Claim7 := { stood := { row := nearestDyadicUptoRow, standIns := [], harness := (true, "290c43ee86b224c2551fb651b72366bed51933f30ea60cba4a715938dac8f92e"), looks := false }, kinds := [], alts := [], laidByText := true, laidKinds := [.data, .data, .data], laidTests := true, laidLooks := .later }
def NearestDyadicUptoCardSaid : Prop := Claim7.holds Tryz.pinned (.plain (OpenSpec.upto nearestDyadicSpec)) nearestDyadicUptoCard

/-- THE SECOND FORM's CARD OF 'sosoptlaw28.NearestBest'. -/
def nearestBestUptoCard : Claim7 := { stood := { row := nearestBestUptoRow, standIns := [], harness := (true, "290c43ee86b224c2551fb651b72366bed51933f30ea60cba4a715938dac8f92e"), looks := false }, kinds := [], alts := [], laidByText := true, laidKinds := [.data, .data, .data], laidTests := true, laidLooks := .later }
def NearestBestUptoCardSaid : Prop := Claim7.holds Tryz.pinned (.plain (OpenSpec.upto nearestBestSpec)) nearestBestUptoCard

/-- THE SECOND FORM's CARD OF 'sosoptlaw28.NearestOwn'. -/
def nearestOwnUptoCard : Claim7 := { stood := { row := nearestOwnUptoRow, standIns := [], harness := (true, "290c43ee86b224c2551fb651b72366bed51933f30ea60cba4a715938dac8f92e"), looks := false }, kinds := [], alts := [], laidByText := true, laidKinds := [.data, .data, .data], laidTests := true, laidLooks := .later }
def NearestOwnUptoCardSaid : Prop := Claim7.holds Tryz.pinned (.plain (OpenSpec.upto nearestOwnSpec)) nearestOwnUptoCard

/-- THE SECOND FORM's CARD OF 'sosoptlaw28.NearestProjects'. -/
def nearestProjectsUptoCard : Claim7 := { stood := { row := nearestProjectsUptoRow, standIns := [], harness := (true, "290c43ee86b224c2551fb651b72366bed51933f30ea60cba4a715938dac8f92e"), looks := false }, kinds := [], alts := [], laidByText := true, laidKinds := [.data, .data, .data], laidTests := true, laidLooks := .later }
def NearestProjectsUptoCardSaid : Prop := Claim7.holds Tryz.pinned (.plain (OpenSpec.upto nearestProjectsSpec)) nearestProjectsUptoCard

/-- THE SECOND FORM's CARD OF 'sosoptlaw28.NearestProjected'. -/
def nearestProjectedUptoCard : Claim7 := { stood := { row := nearestProjectedUptoRow, standIns := [], harness := (true, "290c43ee86b224c2551fb651b72366bed51933f30ea60cba4a715938dac8f92e"), looks := false }, kinds := [], alts := [], laidByText := true, laidKinds := [.data, .data, .data], laidTests := true, laidLooks := .later }
def NearestProjectedUptoCardSaid : Prop := Claim7.holds Tryz.pinned (.plain (OpenSpec.upto nearestProjectedSpec)) nearestProjectedUptoCard

/-- THE SECOND FORM's CARD OF 'sosoptlaw28.NearestRefuses'. -/
def nearestRefusesUptoCard : Claim7 := { stood := { row := nearestRefusesUptoRow, standIns := [], harness := (true, "290c43ee86b224c2551fb651b72366bed51933f30ea60cba4a715938dac8f92e"), looks := false }, kinds := [], alts := [], laidByText := true, laidKinds := [.data, .data, .data], laidTests := true, laidLooks := .later }
def NearestRefusesUptoCardSaid : Prop := Claim7.holds Tryz.pinned (.plain (OpenSpec.upto nearestRefusesSpec)) nearestRefusesUptoCard
end Rows
end Go.Proofs.YtgnclfejnndicaaGreatDoor
