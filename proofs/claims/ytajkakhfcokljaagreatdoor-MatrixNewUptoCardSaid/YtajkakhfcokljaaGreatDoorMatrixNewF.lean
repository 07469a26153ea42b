/-
  Closed facts on the row of MatrixNew, each by the kernel: used in YtajkakhfcokljaaGreatDoorMatrixNew.
-/
import Derived.Test.YtajkakhfcokljaaGreatDoorCards
import Derived.WalkKit
import Derived.ProofKit
import Derived.Deep.DeepHandedRow
namespace Go.Proofs.YtajkakhfcokljaaGreatDoor.matrixNew
open Go Go.RowKit
theorem fact1 : Tryz.pinned.checked.prog.funcNamed Rows.matrixNewUptoRow.func = some 3 := by kernel_rfl
theorem fact2 : joinedFacts Tryz.pinned.checked.prog 3 Tryz.f3 (Rows.OpenSpec.upto Rows.matrixNewSpec).bare Rows.matrixNewUptoRow = true := by kernel_rfl
theorem fact3 : Tryz.f3.isInstance Tryz.pinned.checked.prog Rows.matrixNewUptoRow.origin Rows.matrixNewUptoRow.targs := of_decide_eq_true (by kernel_rfl)
theorem fact4 : Tryz.f3.isWrapper Tryz.pinned.checked.prog Rows.matrixNewUptoRow.wrapper Rows.matrixNewUptoRow.mainSum := by unfold Func.isWrapper; first | (rw [if_pos (by decide +kernel)]; kernel_rfl) | (rw [if_neg (by decide +kernel)]; exact ⟨rfl, rfl⟩)
end Go.Proofs.YtajkakhfcokljaaGreatDoor.matrixNew
