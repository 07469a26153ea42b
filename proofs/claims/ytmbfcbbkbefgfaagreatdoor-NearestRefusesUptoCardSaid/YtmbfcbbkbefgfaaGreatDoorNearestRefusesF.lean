/-
  Closed facts on the row of NearestRefuses, each by the kernel: used in YtmbfcbbkbefgfaaGreatDoorNearestRefuses.
-/
import Derived.Test.YtmbfcbbkbefgfaaGreatDoorCards
import Derived.WalkKit
import Derived.ProofKit
import Derived.Deep.DeepHandedRow
namespace Go.Proofs.YtmbfcbbkbefgfaaGreatDoor.nearestRefuses
open Go Go.RowKit
theorem fact1 : Tryz.pinned.checked.prog.funcNamed Rows.nearestRefusesUptoRow.func = some 9 := by kernel_rfl
theorem fact2 : joinedFacts Tryz.pinned.checked.prog 9 Tryz.f9 (Rows.OpenSpec.upto Rows.nearestRefusesSpec).bare Rows.nearestRefusesUptoRow = true := by kernel_rfl
theorem fact3 : Tryz.f9.isInstance Tryz.pinned.checked.prog Rows.nearestRefusesUptoRow.origin Rows.nearestRefusesUptoRow.targs := of_decide_eq_true (by kernel_rfl)
theorem fact4 : Tryz.f9.isWrapper Tryz.pinned.checked.prog Rows.nearestRefusesUptoRow.wrapper Rows.nearestRefusesUptoRow.mainSum := by unfold Func.isWrapper; first | (rw [if_pos (by decide +kernel)]; kernel_rfl) | (rw [if_neg (by decide +kernel)]; exact ⟨rfl, rfl⟩)
end Go.Proofs.YtmbfcbbkbefgfaaGreatDoor.nearestRefuses
