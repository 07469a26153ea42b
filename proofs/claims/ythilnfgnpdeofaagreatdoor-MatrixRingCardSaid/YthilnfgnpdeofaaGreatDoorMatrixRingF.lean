/-
  Closed facts on the row of MatrixRing, each by the kernel: used in YthilnfgnpdeofaaGreatDoorMatrixRing.
-/
import Derived.Test.YthilnfgnpdeofaaGreatDoorCards
import Derived.WalkKit
import Derived.ProofKit
import Derived.Deep.DeepHandedRow
namespace Go.Proofs.YthilnfgnpdeofaaGreatDoor.matrixRing
open Go Go.RowKit
theorem fact1 : Tryz.pinned.checked.prog.funcNamed Rows.matrixRingRow.func = some 8 := by kernel_rfl
theorem fact2 : joinedFacts Tryz.pinned.checked.prog 8 Tryz.f8 (OpenSpec.ofChange Rows.matrixRingSpec).bare Rows.matrixRingRow = true := by kernel_rfl
theorem fact3 : Tryz.f8.isInstance Tryz.pinned.checked.prog Rows.matrixRingRow.origin Rows.matrixRingRow.targs := of_decide_eq_true (by kernel_rfl)
theorem fact4 : Tryz.f8.isWrapper Tryz.pinned.checked.prog Rows.matrixRingRow.wrapper Rows.matrixRingRow.mainSum := by unfold Func.isWrapper; first | (rw [if_pos (by decide +kernel)]; kernel_rfl) | (rw [if_neg (by decide +kernel)]; exact ⟨rfl, rfl⟩)
end Go.Proofs.YthilnfgnpdeofaaGreatDoor.matrixRing
