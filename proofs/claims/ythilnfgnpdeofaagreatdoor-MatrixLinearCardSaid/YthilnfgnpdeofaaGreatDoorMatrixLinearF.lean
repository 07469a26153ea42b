/-
  Closed facts on the row of MatrixLinear, each by the kernel: used in YthilnfgnpdeofaaGreatDoorMatrixLinear.
-/
import Derived.Test.YthilnfgnpdeofaaGreatDoorCards
import Derived.WalkKit
import Derived.ProofKit
import Derived.Deep.DeepHandedRow
namespace Go.Proofs.YthilnfgnpdeofaaGreatDoor.matrixLinear
open Go Go.RowKit
theorem fact1 : Tryz.pinned.checked.prog.funcNamed Rows.matrixLinearRow.func = some 10 := by kernel_rfl
theorem fact2 : joinedFacts Tryz.pinned.checked.prog 10 Tryz.f10 (OpenSpec.ofChange Rows.matrixLinearSpec).bare Rows.matrixLinearRow = true := by kernel_rfl
theorem fact3 : Tryz.f10.isInstance Tryz.pinned.checked.prog Rows.matrixLinearRow.origin Rows.matrixLinearRow.targs := of_decide_eq_true (by kernel_rfl)
theorem fact4 : Tryz.f10.isWrapper Tryz.pinned.checked.prog Rows.matrixLinearRow.wrapper Rows.matrixLinearRow.mainSum := by unfold Func.isWrapper; first | (rw [if_pos (by decide +kernel)]; kernel_rfl) | (rw [if_neg (by decide +kernel)]; exact ⟨rfl, rfl⟩)
end Go.Proofs.YthilnfgnpdeofaaGreatDoor.matrixLinear
