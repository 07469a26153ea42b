/-
  DERIVED. GIVEN WITH THE SEED: THE CARDS: each row of YtbgkfnjmcjfokaaGreatDoorRows.lean that lists a variable, with what it lists TIED to the program's text (the seventh form; the later family's looks); each row that meets fmt, with fmt's text TOLD by the authors' own Lean function (tested against real Go, not proved from fmt's source: count such statements apart). THE CARD IS WHAT COUNTS. Prove the row's statement (the work); the ties are given (YtbgkfnjmcjfokaaGreatDoorTie.lean); close each card by the builder's one call (the guide's Derived/Test/ToyasCard.lean, 'card_holds'). Laid BY PROGRAM, IN A SANDBOX (cutbox-door.mjs). By AI agents, Wed Nov 11 2026. No macro, syntax, notation, axiom, sorry.
-/
import Derived.Test.YtbgkfnjmcjfokaaGreatDoorRows
import GoSem.ClaimSeven
namespace Go.Proofs.YtbgkfnjmcjfokaaGreatDoor
namespace Rows

/-- THE TIED CARD OF 'sosopttop.TopNewton'. -/
def topNewtonCard : Claim7 := { stood := { row := topNewtonRow, standIns := [], harness := (true, "c4258380a84ba801ce6b932f4727be906bd089f7174adaddeb006dc430a5848f"), looks := false }, kinds := [], alts := [], laidByText := true, laidKinds := [.data, .data, .data], laidTests := true, laidLooks := .later }
def TopNewtonCardSaid : Prop := Claim7.holds Tryz.pinned (.plain (OpenSpec.ofChange topNewtonSpec)) topNewtonCard

/-- THE TIED CARD OF 'sosopttop.TopRefinedRoots'. -/
def topRefinedRootsCard : Claim7 := { stood := { row := topRefinedRootsRow, standIns := [], harness := (true, "c4258380a84ba801ce6b932f4727be906bd089f7174adaddeb006dc430a5848f"), looks := false }, kinds := [], alts := [], laidByText := true, laidKinds := [.data, .data, .data], laidTests := true, laidLooks := .later }
def TopRefinedRootsCardSaid : Prop := Claim7.holds Tryz.pinned (.plain (OpenSpec.ofChange topRefinedRootsSpec)) topRefinedRootsCard

/-- THE SECOND FORM's CARD OF 'sosopttop.TopNewton'. -/
def topNewtonUptoCard : Claim7 := { stood := { row := topNewtonUptoRow, standIns := [], harness := (true, "c4258380a84ba801ce6b932f4727be906bd089f7174adaddeb006dc430a5848f"), looks := false }, kinds := [], alts := [], laidByText := true, laidKinds := [.data, .data, .data], laidTests := true, laidLooks := .later }
def TopNewtonUptoCardSaid : Prop := Claim7.holds Tryz.pinned (.plain (OpenSpec.upto topNewtonSpec)) topNewtonUptoCard

/-- THE SECOND FORM's CARD OF 'sosopttop.TopRefinedRoots'. -/
def topRefinedRootsUptoCard : Claim7 := { stood := { row := topRefinedRootsUptoRow, standIns := [], harness := (true, "c4258380a84ba801ce6b932f4727be906bd089f7174adaddeb006dc430a5848f"), looks := false }, kinds := [], alts := [], laidByText := true, laidKinds := [.data, .data, .data], laidTests := true, laidLooks := .later }
def TopRefinedRootsUptoCardSaid : Prop := Claim7.holds Tryz.pinned (.plain (OpenSpec.upto topRefinedRootsSpec)) topRefinedRootsUptoCard
end Rows
end Go.Proofs.YtbgkfnjmcjfokaaGreatDoor
