/-
  Closed facts on the row of NearestOwn, each by the kernel: used in YtgnclfejnndicaaGreatDoorNearestOwn.
-/
import Derived.Test.YtgnclfejnndicaaGreatDoorCards
import Derived.WalkKit
import Derived.ProofKit
import Derived.Deep.DeepHandedRow
namespace Go.Proofs.YtgnclfejnndicaaGreatDoor.nearestOwn
open Go Go.RowKit
theorem fact1 : Tryz.pinned.checked.prog.funcNamed Rows.nearestOwnRow.func = some 9 := by kernel_rfl
theorem fact2 : joinedFacts Tryz.pinned.checked.prog 9 Tryz.f9 (OpenSpec.ofChange Rows.nearestOwnSpec).bare Rows.nearestOwnRow = true := by kernel_rfl
theorem fact3 : Tryz.f9.isInstance Tryz.pinned.checked.prog Rows.nearestOwnRow.origin Rows.nearestOwnRow.targs := of_decide_eq_true (by kernel_rfl)
theorem fact4 : Tryz.f9.isWrapper Tryz.pinned.checked.prog Rows.nearestOwnRow.wrapper Rows.nearestOwnRow.mainSum := by unfold Func.isWrapper; first | (rw [if_pos (by decide +kernel)]; kernel_rfl) | (rw [if_neg (by decide +kernel)]; exact ⟨rfl, rfl⟩)
end Go.Proofs.YtgnclfejnndicaaGreatDoor.nearestOwn
