/-
  Closed facts on the row of MatrixFactors, each by the kernel: used in YthilnfgnpdeofaaGreatDoorMatrixFactors.
-/
import Derived.Test.YthilnfgnpdeofaaGreatDoorCards
import Derived.WalkKit
import Derived.ProofKit
import Derived.Deep.DeepHandedRow
namespace Go.Proofs.YthilnfgnpdeofaaGreatDoor.matrixFactors
open Go Go.RowKit
theorem fact1 : Tryz.pinned.checked.prog.funcNamed Rows.matrixFactorsRow.func = some 11 := by kernel_rfl
theorem fact2 : joinedFacts Tryz.pinned.checked.prog 11 Tryz.f11 (OpenSpec.ofChange Rows.matrixFactorsSpec).bare Rows.matrixFactorsRow = true := by kernel_rfl
theorem fact3 : Tryz.f11.isInstance Tryz.pinned.checked.prog Rows.matrixFactorsRow.origin Rows.matrixFactorsRow.targs := of_decide_eq_true (by kernel_rfl)
theorem fact4 : Tryz.f11.isWrapper Tryz.pinned.checked.prog Rows.matrixFactorsRow.wrapper Rows.matrixFactorsRow.mainSum := by unfold Func.isWrapper; first | (rw [if_pos (by decide +kernel)]; kernel_rfl) | (rw [if_neg (by decide +kernel)]; exact ⟨rfl, rfl⟩)
end Go.Proofs.YthilnfgnpdeofaaGreatDoor.matrixFactors
