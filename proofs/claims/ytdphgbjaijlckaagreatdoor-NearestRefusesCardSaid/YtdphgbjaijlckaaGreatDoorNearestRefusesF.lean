/-
  Closed facts on the row of NearestRefuses, each by the kernel: used in YtdphgbjaijlckaaGreatDoorNearestRefuses.
-/
import Derived.Test.YtdphgbjaijlckaaGreatDoorCards
import Derived.WalkKit
import Derived.ProofKit
import Derived.Deep.DeepHandedRow
namespace Go.Proofs.YtdphgbjaijlckaaGreatDoor.nearestRefuses
open Go Go.RowKit
theorem fact1 : Tryz.pinned.checked.prog.funcNamed Rows.nearestRefusesRow.func = some 7 := by kernel_rfl
theorem fact2 : joinedFacts Tryz.pinned.checked.prog 7 Tryz.f7 (OpenSpec.ofChange Rows.nearestRefusesSpec).bare Rows.nearestRefusesRow = true := by kernel_rfl
theorem fact3 : Tryz.f7.isInstance Tryz.pinned.checked.prog Rows.nearestRefusesRow.origin Rows.nearestRefusesRow.targs := of_decide_eq_true (by kernel_rfl)
theorem fact4 : Tryz.f7.isWrapper Tryz.pinned.checked.prog Rows.nearestRefusesRow.wrapper Rows.nearestRefusesRow.mainSum := by unfold Func.isWrapper; first | (rw [if_pos (by decide +kernel)]; kernel_rfl) | (rw [if_neg (by decide +kernel)]; exact ⟨rfl, rfl⟩)
end Go.Proofs.YtdphgbjaijlckaaGreatDoor.nearestRefuses
