/-
  Closed facts on the row of MatrixNew, each by the kernel: used in YtdphgbjaijlckaaGreatDoorMatrixNew.
-/
import Derived.Test.YtdphgbjaijlckaaGreatDoorCards
import Derived.WalkKit
import Derived.ProofKit
import Derived.Deep.DeepHandedRow
namespace Go.Proofs.YtdphgbjaijlckaaGreatDoor.matrixNew
open Go Go.RowKit
theorem fact1 : Tryz.pinned.checked.prog.funcNamed Rows.matrixNewRow.func = some 5 := by kernel_rfl
theorem fact2 : joinedFacts Tryz.pinned.checked.prog 5 Tryz.f5 (OpenSpec.ofChange Rows.matrixNewSpec).bare Rows.matrixNewRow = true := by kernel_rfl
theorem fact3 : Tryz.f5.isInstance Tryz.pinned.checked.prog Rows.matrixNewRow.origin Rows.matrixNewRow.targs := of_decide_eq_true (by kernel_rfl)
theorem fact4 : Tryz.f5.isWrapper Tryz.pinned.checked.prog Rows.matrixNewRow.wrapper Rows.matrixNewRow.mainSum := by unfold Func.isWrapper; first | (rw [if_pos (by decide +kernel)]; kernel_rfl) | (rw [if_neg (by decide +kernel)]; exact ⟨rfl, rfl⟩)
end Go.Proofs.YtdphgbjaijlckaaGreatDoor.matrixNew
