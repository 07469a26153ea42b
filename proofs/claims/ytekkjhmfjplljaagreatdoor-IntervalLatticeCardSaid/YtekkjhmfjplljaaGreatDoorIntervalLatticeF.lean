/-
  Closed facts on the row of IntervalLattice, each by the kernel: used in YtekkjhmfjplljaaGreatDoorIntervalLattice.
-/
import Derived.Test.YtekkjhmfjplljaaGreatDoorCards
import Derived.WalkKit
import Derived.ProofKit
import Derived.Deep.DeepHandedRow
namespace Go.Proofs.YtekkjhmfjplljaaGreatDoor.intervalLattice
open Go Go.RowKit
theorem fact1 : Tryz.pinned.checked.prog.funcNamed Rows.intervalLatticeRow.func = some 4 := by kernel_rfl
theorem fact2 : joinedFacts Tryz.pinned.checked.prog 4 Tryz.f4 (OpenSpec.ofChange Rows.intervalLatticeSpec).bare Rows.intervalLatticeRow = true := by kernel_rfl
theorem fact3 : Tryz.f4.isInstance Tryz.pinned.checked.prog Rows.intervalLatticeRow.origin Rows.intervalLatticeRow.targs := of_decide_eq_true (by kernel_rfl)
theorem fact4 : Tryz.f4.isWrapper Tryz.pinned.checked.prog Rows.intervalLatticeRow.wrapper Rows.intervalLatticeRow.mainSum := by unfold Func.isWrapper; first | (rw [if_pos (by decide +kernel)]; kernel_rfl) | (rw [if_neg (by decide +kernel)]; exact ⟨rfl, rfl⟩)
end Go.Proofs.YtekkjhmfjplljaaGreatDoor.intervalLattice
