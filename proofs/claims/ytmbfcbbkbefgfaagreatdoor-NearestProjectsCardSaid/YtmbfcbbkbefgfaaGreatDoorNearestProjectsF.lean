/-
  Closed facts on the row of NearestProjects, each by the kernel: used in YtmbfcbbkbefgfaaGreatDoorNearestProjects.
-/
import Derived.Test.YtmbfcbbkbefgfaaGreatDoorCards
import Derived.WalkKit
import Derived.ProofKit
import Derived.Deep.DeepHandedRow
namespace Go.Proofs.YtmbfcbbkbefgfaaGreatDoor.nearestProjects
open Go Go.RowKit
theorem fact1 : Tryz.pinned.checked.prog.funcNamed Rows.nearestProjectsRow.func = some 7 := by kernel_rfl
theorem fact2 : joinedFacts Tryz.pinned.checked.prog 7 Tryz.f7 (OpenSpec.ofChange Rows.nearestProjectsSpec).bare Rows.nearestProjectsRow = true := by kernel_rfl
theorem fact3 : Tryz.f7.isInstance Tryz.pinned.checked.prog Rows.nearestProjectsRow.origin Rows.nearestProjectsRow.targs := of_decide_eq_true (by kernel_rfl)
theorem fact4 : Tryz.f7.isWrapper Tryz.pinned.checked.prog Rows.nearestProjectsRow.wrapper Rows.nearestProjectsRow.mainSum := by unfold Func.isWrapper; first | (rw [if_pos (by decide +kernel)]; kernel_rfl) | (rw [if_neg (by decide +kernel)]; exact ⟨rfl, rfl⟩)
end Go.Proofs.YtmbfcbbkbefgfaaGreatDoor.nearestProjects
