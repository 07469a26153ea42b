/-
  Closed facts on the row of IntervalValues, each by the kernel: used in YtdphgbjaijlckaaGreatDoorIntervalValues.
-/
import Derived.Test.YtdphgbjaijlckaaGreatDoorCards
import Derived.WalkKit
import Derived.ProofKit
import Derived.Deep.DeepHandedRow
namespace Go.Proofs.YtdphgbjaijlckaaGreatDoor.intervalValues
open Go Go.RowKit
theorem fact1 : Tryz.pinned.checked.prog.funcNamed Rows.intervalValuesRow.func = some 6 := by kernel_rfl
set_option maxHeartbeats 0 in
theorem fact2 : joinedFacts Tryz.pinned.checked.prog 6 Tryz.f6 (OpenSpec.ofChange Rows.intervalValuesSpec).bare Rows.intervalValuesRow = true := by
  unfold joinedFacts
  simp only [Bool.and_eq_true]
  refine ⟨⟨⟨⟨⟨⟨⟨⟨⟨⟨⟨⟨⟨⟨⟨⟨⟨⟨⟨?_, ?_⟩, ?_⟩, ?_⟩, ?_⟩, ?_⟩, ?_⟩, ?_⟩, ?_⟩, ?_⟩, ?_⟩, ?_⟩, ?_⟩, ?_⟩, ?_⟩, ?_⟩, ?_⟩, ?_⟩, ?_⟩, ?_⟩ <;> decide +kernel
theorem fact3 : Tryz.f6.isInstance Tryz.pinned.checked.prog Rows.intervalValuesRow.origin Rows.intervalValuesRow.targs := of_decide_eq_true (by kernel_rfl)
theorem fact4 : Tryz.f6.isWrapper Tryz.pinned.checked.prog Rows.intervalValuesRow.wrapper Rows.intervalValuesRow.mainSum := by unfold Func.isWrapper; first | (rw [if_pos (by decide +kernel)]; kernel_rfl) | (rw [if_neg (by decide +kernel)]; exact ⟨rfl, rfl⟩)
end Go.Proofs.YtdphgbjaijlckaaGreatDoor.intervalValues
