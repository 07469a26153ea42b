/-
  Closed facts on the row of IntervalRounding, each by the kernel: used in YtekkjhmfjplljaaGreatDoorIntervalRounding.
-/
import Derived.Test.YtekkjhmfjplljaaGreatDoorCards
import Derived.WalkKit
import Derived.ProofKit
import Derived.Deep.DeepHandedRow
namespace Go.Proofs.YtekkjhmfjplljaaGreatDoor.intervalRounding
open Go Go.RowKit
theorem fact1 : Tryz.pinned.checked.prog.funcNamed Rows.intervalRoundingUptoRow.func = some 5 := by kernel_rfl
theorem fact2 : joinedFacts Tryz.pinned.checked.prog 5 Tryz.f5 (Rows.OpenSpec.upto Rows.intervalRoundingSpec).bare Rows.intervalRoundingUptoRow = true := by kernel_rfl
theorem fact3 : Tryz.f5.isInstance Tryz.pinned.checked.prog Rows.intervalRoundingUptoRow.origin Rows.intervalRoundingUptoRow.targs := of_decide_eq_true (by kernel_rfl)
theorem fact4 : Tryz.f5.isWrapper Tryz.pinned.checked.prog Rows.intervalRoundingUptoRow.wrapper Rows.intervalRoundingUptoRow.mainSum := by unfold Func.isWrapper; first | (rw [if_pos (by decide +kernel)]; kernel_rfl) | (rw [if_neg (by decide +kernel)]; exact ⟨rfl, rfl⟩)
end Go.Proofs.YtekkjhmfjplljaaGreatDoor.intervalRounding
