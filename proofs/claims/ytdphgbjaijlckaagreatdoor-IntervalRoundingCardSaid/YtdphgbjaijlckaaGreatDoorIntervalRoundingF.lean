/-
  Closed facts on the row of IntervalRounding, each by the kernel: used in YtdphgbjaijlckaaGreatDoorIntervalRounding.
-/
import Derived.Test.YtdphgbjaijlckaaGreatDoorCards
import Derived.WalkKit
import Derived.ProofKit
import Derived.Deep.DeepHandedRow
namespace Go.Proofs.YtdphgbjaijlckaaGreatDoor.intervalRounding
open Go Go.RowKit
theorem fact1 : Tryz.pinned.checked.prog.funcNamed Rows.intervalRoundingRow.func = some 3 := by kernel_rfl
theorem fact2 : joinedFacts Tryz.pinned.checked.prog 3 Tryz.f3 (OpenSpec.ofChange Rows.intervalRoundingSpec).bare Rows.intervalRoundingRow = true := by kernel_rfl
theorem fact3 : Tryz.f3.isInstance Tryz.pinned.checked.prog Rows.intervalRoundingRow.origin Rows.intervalRoundingRow.targs := of_decide_eq_true (by kernel_rfl)
theorem fact4 : Tryz.f3.isWrapper Tryz.pinned.checked.prog Rows.intervalRoundingRow.wrapper Rows.intervalRoundingRow.mainSum := by unfold Func.isWrapper; first | (rw [if_pos (by decide +kernel)]; kernel_rfl) | (rw [if_neg (by decide +kernel)]; exact ⟨rfl, rfl⟩)
end Go.Proofs.YtdphgbjaijlckaaGreatDoor.intervalRounding
