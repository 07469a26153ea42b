/-
  Closed facts on the row of IntervalContains, each by the kernel: used in YtekkjhmfjplljaaGreatDoorIntervalContains.
-/
import Derived.Test.YtekkjhmfjplljaaGreatDoorCards
import Derived.WalkKit
import Derived.ProofKit
import Derived.Deep.DeepHandedRow
namespace Go.Proofs.YtekkjhmfjplljaaGreatDoor.intervalContains
open Go Go.RowKit
theorem fact1 : Tryz.pinned.checked.prog.funcNamed Rows.intervalContainsUptoRow.func = some 7 := by kernel_rfl
theorem fact2 : joinedFacts Tryz.pinned.checked.prog 7 Tryz.f7 (Rows.OpenSpec.upto Rows.intervalContainsSpec).bare Rows.intervalContainsUptoRow = true := by kernel_rfl
theorem fact3 : Tryz.f7.isInstance Tryz.pinned.checked.prog Rows.intervalContainsUptoRow.origin Rows.intervalContainsUptoRow.targs := of_decide_eq_true (by kernel_rfl)
theorem fact4 : Tryz.f7.isWrapper Tryz.pinned.checked.prog Rows.intervalContainsUptoRow.wrapper Rows.intervalContainsUptoRow.mainSum := by unfold Func.isWrapper; first | (rw [if_pos (by decide +kernel)]; kernel_rfl) | (rw [if_neg (by decide +kernel)]; exact ⟨rfl, rfl⟩)
end Go.Proofs.YtekkjhmfjplljaaGreatDoor.intervalContains
