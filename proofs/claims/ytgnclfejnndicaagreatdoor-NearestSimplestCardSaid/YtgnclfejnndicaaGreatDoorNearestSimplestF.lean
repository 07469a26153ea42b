/-
  Closed facts on the row of NearestSimplest, each by the kernel: used in YtgnclfejnndicaaGreatDoorNearestSimplest.
-/
import Derived.Test.YtgnclfejnndicaaGreatDoorCards
import Derived.WalkKit
import Derived.ProofKit
import Derived.Deep.DeepHandedRow
namespace Go.Proofs.YtgnclfejnndicaaGreatDoor.nearestSimplest
open Go Go.RowKit
theorem fact1 : Tryz.pinned.checked.prog.funcNamed Rows.nearestSimplestRow.func = some 3 := by kernel_rfl
theorem fact2 : joinedFacts Tryz.pinned.checked.prog 3 Tryz.f3 (OpenSpec.ofChange Rows.nearestSimplestSpec).bare Rows.nearestSimplestRow = true := by kernel_rfl
theorem fact3 : Tryz.f3.isInstance Tryz.pinned.checked.prog Rows.nearestSimplestRow.origin Rows.nearestSimplestRow.targs := of_decide_eq_true (by kernel_rfl)
theorem fact4 : Tryz.f3.isWrapper Tryz.pinned.checked.prog Rows.nearestSimplestRow.wrapper Rows.nearestSimplestRow.mainSum := by unfold Func.isWrapper; first | (rw [if_pos (by decide +kernel)]; kernel_rfl) | (rw [if_neg (by decide +kernel)]; exact ⟨rfl, rfl⟩)
end Go.Proofs.YtgnclfejnndicaaGreatDoor.nearestSimplest
