/-
  Closed facts on the row of NearestLeast, each by the kernel: used in YtgnclfejnndicaaGreatDoorNearestLeast.
-/
import Derived.Test.YtgnclfejnndicaaGreatDoorCards
import Derived.WalkKit
import Derived.ProofKit
import Derived.Deep.DeepHandedRow
namespace Go.Proofs.YtgnclfejnndicaaGreatDoor.nearestLeast
open Go Go.RowKit
theorem fact1 : Tryz.pinned.checked.prog.funcNamed Rows.nearestLeastRow.func = some 4 := by kernel_rfl
theorem fact2 : joinedFacts Tryz.pinned.checked.prog 4 Tryz.f4 (OpenSpec.ofChange Rows.nearestLeastSpec).bare Rows.nearestLeastRow = true := by kernel_rfl
theorem fact3 : Tryz.f4.isInstance Tryz.pinned.checked.prog Rows.nearestLeastRow.origin Rows.nearestLeastRow.targs := of_decide_eq_true (by kernel_rfl)
theorem fact4 : Tryz.f4.isWrapper Tryz.pinned.checked.prog Rows.nearestLeastRow.wrapper Rows.nearestLeastRow.mainSum := by unfold Func.isWrapper; first | (rw [if_pos (by decide +kernel)]; kernel_rfl) | (rw [if_neg (by decide +kernel)]; exact ⟨rfl, rfl⟩)
end Go.Proofs.YtgnclfejnndicaaGreatDoor.nearestLeast
