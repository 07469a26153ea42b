/-
  Closed facts on the row of MatrixInverse, each by the kernel: used in YthilnfgnpdeofaaGreatDoorMatrixInverse.
-/
import Derived.Test.YthilnfgnpdeofaaGreatDoorCards
import Derived.WalkKit
import Derived.ProofKit
import Derived.Deep.DeepHandedRow
namespace Go.Proofs.YthilnfgnpdeofaaGreatDoor.matrixInverse
open Go Go.RowKit
theorem fact1 : Tryz.pinned.checked.prog.funcNamed Rows.matrixInverseRow.func = some 6 := by kernel_rfl
theorem fact2 : joinedFacts Tryz.pinned.checked.prog 6 Tryz.f6 (OpenSpec.ofChange Rows.matrixInverseSpec).bare Rows.matrixInverseRow = true := by kernel_rfl
theorem fact3 : Tryz.f6.isInstance Tryz.pinned.checked.prog Rows.matrixInverseRow.origin Rows.matrixInverseRow.targs := of_decide_eq_true (by kernel_rfl)
theorem fact4 : Tryz.f6.isWrapper Tryz.pinned.checked.prog Rows.matrixInverseRow.wrapper Rows.matrixInverseRow.mainSum := by unfold Func.isWrapper; first | (rw [if_pos (by decide +kernel)]; kernel_rfl) | (rw [if_neg (by decide +kernel)]; exact ⟨rfl, rfl⟩)
end Go.Proofs.YthilnfgnpdeofaaGreatDoor.matrixInverse
