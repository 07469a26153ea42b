/-
  Closed facts on the row of ExtractExtracts, each by the kernel: used in YtkfhdoblhajcbaaGreatDoorExtractExtracts.
-/
import Derived.Test.YtkfhdoblhajcbaaGreatDoorCards
import Derived.WalkKit
import Derived.ProofKit
import Derived.Deep.DeepHandedRow
namespace Go.Proofs.YtkfhdoblhajcbaaGreatDoor.extractExtracts
open Go Go.RowKit
theorem fact1 : Tryz.pinned.checked.prog.funcNamed Rows.extractExtractsRow.func = some 6 := by kernel_rfl
theorem fact2 : joinedFacts Tryz.pinned.checked.prog 6 Tryz.f6 (OpenSpec.ofChange Rows.extractExtractsSpec).bare Rows.extractExtractsRow = true := by kernel_rfl
theorem fact3 : Tryz.f6.isInstance Tryz.pinned.checked.prog Rows.extractExtractsRow.origin Rows.extractExtractsRow.targs := of_decide_eq_true (by kernel_rfl)
theorem fact4 : Tryz.f6.isWrapper Tryz.pinned.checked.prog Rows.extractExtractsRow.wrapper Rows.extractExtractsRow.mainSum := by unfold Func.isWrapper; first | (rw [if_pos (by decide +kernel)]; kernel_rfl) | (rw [if_neg (by decide +kernel)]; exact ⟨rfl, rfl⟩)
end Go.Proofs.YtkfhdoblhajcbaaGreatDoor.extractExtracts
