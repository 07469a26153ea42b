/-
  Closed facts on the row of NearestProjected, each by the kernel: used in YtmbfcbbkbefgfaaGreatDoorNearestProjected.
-/
import Derived.Test.YtmbfcbbkbefgfaaGreatDoorCards
import Derived.WalkKit
import Derived.ProofKit
import Derived.Deep.DeepHandedRow
namespace Go.Proofs.YtmbfcbbkbefgfaaGreatDoor.nearestProjected
open Go Go.RowKit
theorem fact1 : Tryz.pinned.checked.prog.funcNamed Rows.nearestProjectedRow.func = some 8 := by kernel_rfl
theorem fact2 : joinedFacts Tryz.pinned.checked.prog 8 Tryz.f8 (OpenSpec.ofChange Rows.nearestProjectedSpec).bare Rows.nearestProjectedRow = true := by kernel_rfl
theorem fact3 : Tryz.f8.isInstance Tryz.pinned.checked.prog Rows.nearestProjectedRow.origin Rows.nearestProjectedRow.targs := of_decide_eq_true (by kernel_rfl)
theorem fact4 : Tryz.f8.isWrapper Tryz.pinned.checked.prog Rows.nearestProjectedRow.wrapper Rows.nearestProjectedRow.mainSum := by unfold Func.isWrapper; first | (rw [if_pos (by decide +kernel)]; kernel_rfl) | (rw [if_neg (by decide +kernel)]; exact ⟨rfl, rfl⟩)
end Go.Proofs.YtmbfcbbkbefgfaaGreatDoor.nearestProjected
