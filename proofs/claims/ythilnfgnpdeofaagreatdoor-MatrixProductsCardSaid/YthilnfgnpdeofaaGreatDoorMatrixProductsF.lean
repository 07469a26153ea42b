/-
  Closed facts on the row of MatrixProducts, each by the kernel: used in YthilnfgnpdeofaaGreatDoorMatrixProducts.
-/
import Derived.Test.YthilnfgnpdeofaaGreatDoorCards
import Derived.WalkKit
import Derived.ProofKit
import Derived.Deep.DeepHandedRow
namespace Go.Proofs.YthilnfgnpdeofaaGreatDoor.matrixProducts
open Go Go.RowKit
theorem fact1 : Tryz.pinned.checked.prog.funcNamed Rows.matrixProductsRow.func = some 5 := by kernel_rfl
theorem fact2 : joinedFacts Tryz.pinned.checked.prog 5 Tryz.f5 (OpenSpec.ofChange Rows.matrixProductsSpec).bare Rows.matrixProductsRow = true := by kernel_rfl
theorem fact3 : Tryz.f5.isInstance Tryz.pinned.checked.prog Rows.matrixProductsRow.origin Rows.matrixProductsRow.targs := of_decide_eq_true (by kernel_rfl)
theorem fact4 : Tryz.f5.isWrapper Tryz.pinned.checked.prog Rows.matrixProductsRow.wrapper Rows.matrixProductsRow.mainSum := by unfold Func.isWrapper; first | (rw [if_pos (by decide +kernel)]; kernel_rfl) | (rw [if_neg (by decide +kernel)]; exact ⟨rfl, rfl⟩)
end Go.Proofs.YthilnfgnpdeofaaGreatDoor.matrixProducts
