/-
  Closed facts on the row of TopNewton, each by the kernel: used in YtbgkfnjmcjfokaaGreatDoorTopNewton.
-/
import Derived.Test.YtbgkfnjmcjfokaaGreatDoorCards
import Derived.WalkKit
import Derived.ProofKit
import Derived.Deep.DeepHandedRow
namespace Go.Proofs.YtbgkfnjmcjfokaaGreatDoor.topNewton
open Go Go.RowKit
theorem fact1 : Tryz.pinned.checked.prog.funcNamed Rows.topNewtonRow.func = some 3 := by kernel_rfl
theorem fact2 : joinedFacts Tryz.pinned.checked.prog 3 Tryz.f3 (OpenSpec.ofChange Rows.topNewtonSpec).bare Rows.topNewtonRow = true := by kernel_rfl
theorem fact3 : Tryz.f3.isInstance Tryz.pinned.checked.prog Rows.topNewtonRow.origin Rows.topNewtonRow.targs := of_decide_eq_true (by kernel_rfl)
theorem fact4 : Tryz.f3.isWrapper Tryz.pinned.checked.prog Rows.topNewtonRow.wrapper Rows.topNewtonRow.mainSum := by unfold Func.isWrapper; first | (rw [if_pos (by decide +kernel)]; kernel_rfl) | (rw [if_neg (by decide +kernel)]; exact ⟨rfl, rfl⟩)
end Go.Proofs.YtbgkfnjmcjfokaaGreatDoor.topNewton
