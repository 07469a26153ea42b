/-
  Closed facts on the row of IntervalContains, each by the kernel: used in YtdphgbjaijlckaaGreatDoorIntervalContains.
-/
import Derived.Test.YtdphgbjaijlckaaGreatDoorCards
import Derived.WalkKit
import Derived.ProofKit
import Derived.Deep.DeepHandedRow
namespace Go.Proofs.YtdphgbjaijlckaaGreatDoor.intervalContains
open Go Go.RowKit
theorem fact1 : Tryz.pinned.checked.prog.funcNamed Rows.intervalContainsRow.func = some 4 := by kernel_rfl
theorem fact2 : joinedFacts Tryz.pinned.checked.prog 4 Tryz.f4 (OpenSpec.ofChange Rows.intervalContainsSpec).bare Rows.intervalContainsRow = true := by kernel_rfl
theorem fact3 : Tryz.f4.isInstance Tryz.pinned.checked.prog Rows.intervalContainsRow.origin Rows.intervalContainsRow.targs := of_decide_eq_true (by kernel_rfl)
theorem fact4 : Tryz.f4.isWrapper Tryz.pinned.checked.prog Rows.intervalContainsRow.wrapper Rows.intervalContainsRow.mainSum := by unfold Func.isWrapper; first | (rw [if_pos (by decide +kernel)]; kernel_rfl) | (rw [if_neg (by decide +kernel)]; exact ⟨rfl, rfl⟩)
end Go.Proofs.YtdphgbjaijlckaaGreatDoor.intervalContains
