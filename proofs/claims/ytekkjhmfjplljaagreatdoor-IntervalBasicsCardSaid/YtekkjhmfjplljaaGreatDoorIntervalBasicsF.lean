/-
  Closed facts on the row of IntervalBasics, each by the kernel: used in YtekkjhmfjplljaaGreatDoorIntervalBasics.
-/
import Derived.Test.YtekkjhmfjplljaaGreatDoorCards
import Derived.WalkKit
import Derived.ProofKit
import Derived.Deep.DeepHandedRow
namespace Go.Proofs.YtekkjhmfjplljaaGreatDoor.intervalBasics
open Go Go.RowKit
theorem fact1 : Tryz.pinned.checked.prog.funcNamed Rows.intervalBasicsRow.func = some 6 := by kernel_rfl
theorem fact2 : joinedFacts Tryz.pinned.checked.prog 6 Tryz.f6 (OpenSpec.ofChange Rows.intervalBasicsSpec).bare Rows.intervalBasicsRow = true := by kernel_rfl
theorem fact3 : Tryz.f6.isInstance Tryz.pinned.checked.prog Rows.intervalBasicsRow.origin Rows.intervalBasicsRow.targs := of_decide_eq_true (by kernel_rfl)
theorem fact4 : Tryz.f6.isWrapper Tryz.pinned.checked.prog Rows.intervalBasicsRow.wrapper Rows.intervalBasicsRow.mainSum := by unfold Func.isWrapper; first | (rw [if_pos (by decide +kernel)]; kernel_rfl) | (rw [if_neg (by decide +kernel)]; exact ⟨rfl, rfl⟩)
end Go.Proofs.YtekkjhmfjplljaaGreatDoor.intervalBasics
