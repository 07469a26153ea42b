/-
  Closed facts on the row of ExtractBorder, each by the kernel: used in YtkfhdoblhajcbaaGreatDoorExtractBorder.
-/
import Derived.Test.YtkfhdoblhajcbaaGreatDoorCards
import Derived.WalkKit
import Derived.ProofKit
import Derived.Deep.DeepHandedRow
namespace Go.Proofs.YtkfhdoblhajcbaaGreatDoor.extractBorder
open Go Go.RowKit
theorem fact1 : Tryz.pinned.checked.prog.funcNamed Rows.extractBorderRow.func = some 4 := by kernel_rfl
theorem fact2 : joinedFacts Tryz.pinned.checked.prog 4 Tryz.f4 (OpenSpec.ofChange Rows.extractBorderSpec).bare Rows.extractBorderRow = true := by kernel_rfl
theorem fact3 : Tryz.f4.isInstance Tryz.pinned.checked.prog Rows.extractBorderRow.origin Rows.extractBorderRow.targs := of_decide_eq_true (by kernel_rfl)
theorem fact4 : Tryz.f4.isWrapper Tryz.pinned.checked.prog Rows.extractBorderRow.wrapper Rows.extractBorderRow.mainSum := by unfold Func.isWrapper; first | (rw [if_pos (by decide +kernel)]; kernel_rfl) | (rw [if_neg (by decide +kernel)]; exact ⟨rfl, rfl⟩)
end Go.Proofs.YtkfhdoblhajcbaaGreatDoor.extractBorder
