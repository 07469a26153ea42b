/-
  Closed facts on the row of MatrixSolve, each by the kernel: used in YthilnfgnpdeofaaGreatDoorMatrixSolve.
-/
import Derived.Test.YthilnfgnpdeofaaGreatDoorCards
import Derived.WalkKit
import Derived.ProofKit
import Derived.Deep.DeepHandedRow
namespace Go.Proofs.YthilnfgnpdeofaaGreatDoor.matrixSolve
open Go Go.RowKit
theorem fact1 : Tryz.pinned.checked.prog.funcNamed Rows.matrixSolveRow.func = some 4 := by kernel_rfl
theorem fact2 : joinedFacts Tryz.pinned.checked.prog 4 Tryz.f4 (OpenSpec.ofChange Rows.matrixSolveSpec).bare Rows.matrixSolveRow = true := by kernel_rfl
theorem fact3 : Tryz.f4.isInstance Tryz.pinned.checked.prog Rows.matrixSolveRow.origin Rows.matrixSolveRow.targs := of_decide_eq_true (by kernel_rfl)
theorem fact4 : Tryz.f4.isWrapper Tryz.pinned.checked.prog Rows.matrixSolveRow.wrapper Rows.matrixSolveRow.mainSum := by unfold Func.isWrapper; first | (rw [if_pos (by decide +kernel)]; kernel_rfl) | (rw [if_neg (by decide +kernel)]; exact ⟨rfl, rfl⟩)
end Go.Proofs.YthilnfgnpdeofaaGreatDoor.matrixSolve
