/-
  Closed facts on the row of ExtractRecovers, each by the kernel: used in YtkfhdoblhajcbaaGreatDoorExtractRecovers.
-/
import Derived.Test.YtkfhdoblhajcbaaGreatDoorCards
import Derived.WalkKit
import Derived.ProofKit
import Derived.Deep.DeepHandedRow
namespace Go.Proofs.YtkfhdoblhajcbaaGreatDoor.extractRecovers
open Go Go.RowKit
theorem fact1 : Tryz.pinned.checked.prog.funcNamed Rows.extractRecoversRow.func = some 3 := by kernel_rfl
theorem fact2 : joinedFacts Tryz.pinned.checked.prog 3 Tryz.f3 (OpenSpec.ofChange Rows.extractRecoversSpec).bare Rows.extractRecoversRow = true := by kernel_rfl
theorem fact3 : Tryz.f3.isInstance Tryz.pinned.checked.prog Rows.extractRecoversRow.origin Rows.extractRecoversRow.targs := of_decide_eq_true (by kernel_rfl)
theorem fact4 : Tryz.f3.isWrapper Tryz.pinned.checked.prog Rows.extractRecoversRow.wrapper Rows.extractRecoversRow.mainSum := by unfold Func.isWrapper; first | (rw [if_pos (by decide +kernel)]; kernel_rfl) | (rw [if_neg (by decide +kernel)]; exact ⟨rfl, rfl⟩)
end Go.Proofs.YtkfhdoblhajcbaaGreatDoor.extractRecovers
