/-
  Closed facts on the row of TopRefinedRoots, each by the kernel: used in YtbgkfnjmcjfokaaGreatDoorTopRefinedRoots.
-/
import Derived.Test.YtbgkfnjmcjfokaaGreatDoorCards
import Derived.WalkKit
import Derived.ProofKit
import Derived.Deep.DeepHandedRow
namespace Go.Proofs.YtbgkfnjmcjfokaaGreatDoor.topRefinedRoots
open Go Go.RowKit
theorem fact1 : Tryz.pinned.checked.prog.funcNamed Rows.topRefinedRootsRow.func = some 4 := by kernel_rfl
theorem fact2 : joinedFacts Tryz.pinned.checked.prog 4 Tryz.f4 (OpenSpec.ofChange Rows.topRefinedRootsSpec).bare Rows.topRefinedRootsRow = true := by kernel_rfl
theorem fact3 : Tryz.f4.isInstance Tryz.pinned.checked.prog Rows.topRefinedRootsRow.origin Rows.topRefinedRootsRow.targs := of_decide_eq_true (by kernel_rfl)
theorem fact4 : Tryz.f4.isWrapper Tryz.pinned.checked.prog Rows.topRefinedRootsRow.wrapper Rows.topRefinedRootsRow.mainSum := by unfold Func.isWrapper; first | (rw [if_pos (by decide +kernel)]; kernel_rfl) | (rw [if_neg (by decide +kernel)]; exact ⟨rfl, rfl⟩)
end Go.Proofs.YtbgkfnjmcjfokaaGreatDoor.topRefinedRoots
