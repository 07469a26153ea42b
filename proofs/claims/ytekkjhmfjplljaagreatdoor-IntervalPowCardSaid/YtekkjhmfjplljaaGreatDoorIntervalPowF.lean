/-
  Closed facts on the row of IntervalPow, each by the kernel: used in YtekkjhmfjplljaaGreatDoorIntervalPow.
-/
import Derived.Test.YtekkjhmfjplljaaGreatDoorCards
import Derived.WalkKit
import Derived.ProofKit
import Derived.Deep.DeepHandedRow
namespace Go.Proofs.YtekkjhmfjplljaaGreatDoor.intervalPow
open Go Go.RowKit
theorem fact1 : Tryz.pinned.checked.prog.funcNamed Rows.intervalPowRow.func = some 3 := by kernel_rfl
theorem fact2 : joinedFacts Tryz.pinned.checked.prog 3 Tryz.f3 (OpenSpec.ofChange Rows.intervalPowSpec).bare Rows.intervalPowRow = true := by kernel_rfl
theorem fact3 : Tryz.f3.isInstance Tryz.pinned.checked.prog Rows.intervalPowRow.origin Rows.intervalPowRow.targs := of_decide_eq_true (by kernel_rfl)
theorem fact4 : Tryz.f3.isWrapper Tryz.pinned.checked.prog Rows.intervalPowRow.wrapper Rows.intervalPowRow.mainSum := by unfold Func.isWrapper; first | (rw [if_pos (by decide +kernel)]; kernel_rfl) | (rw [if_neg (by decide +kernel)]; exact ⟨rfl, rfl⟩)
end Go.Proofs.YtekkjhmfjplljaaGreatDoor.intervalPow
