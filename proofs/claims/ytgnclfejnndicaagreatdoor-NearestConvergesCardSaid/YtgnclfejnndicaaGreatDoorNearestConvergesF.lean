/-
  Closed facts on the row of NearestConverges, each by the kernel: used in YtgnclfejnndicaaGreatDoorNearestConverges.
-/
import Derived.Test.YtgnclfejnndicaaGreatDoorCards
import Derived.WalkKit
import Derived.ProofKit
import Derived.Deep.DeepHandedRow
namespace Go.Proofs.YtgnclfejnndicaaGreatDoor.nearestConverges
open Go Go.RowKit
theorem fact1 : Tryz.pinned.checked.prog.funcNamed Rows.nearestConvergesRow.func = some 5 := by kernel_rfl
theorem fact2 : joinedFacts Tryz.pinned.checked.prog 5 Tryz.f5 (OpenSpec.ofChange Rows.nearestConvergesSpec).bare Rows.nearestConvergesRow = true := by kernel_rfl
theorem fact3 : Tryz.f5.isInstance Tryz.pinned.checked.prog Rows.nearestConvergesRow.origin Rows.nearestConvergesRow.targs := of_decide_eq_true (by kernel_rfl)
theorem fact4 : Tryz.f5.isWrapper Tryz.pinned.checked.prog Rows.nearestConvergesRow.wrapper Rows.nearestConvergesRow.mainSum := by unfold Func.isWrapper; first | (rw [if_pos (by decide +kernel)]; kernel_rfl) | (rw [if_neg (by decide +kernel)]; exact ⟨rfl, rfl⟩)
end Go.Proofs.YtgnclfejnndicaaGreatDoor.nearestConverges
