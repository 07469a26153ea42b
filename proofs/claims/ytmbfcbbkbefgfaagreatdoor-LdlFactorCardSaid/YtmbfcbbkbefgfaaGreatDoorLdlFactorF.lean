/-
  Closed facts on the row of LdlFactor, each by the kernel: used in YtmbfcbbkbefgfaaGreatDoorLdlFactor.
-/
import Derived.Test.YtmbfcbbkbefgfaaGreatDoorCards
import Derived.WalkKit
import Derived.ProofKit
import Derived.Deep.DeepHandedRow
namespace Go.Proofs.YtmbfcbbkbefgfaaGreatDoor.ldlFactor
open Go Go.RowKit
theorem fact1 : Tryz.pinned.checked.prog.funcNamed Rows.ldlFactorRow.func = some 4 := by kernel_rfl
theorem fact2 : joinedFacts Tryz.pinned.checked.prog 4 Tryz.f4 (OpenSpec.ofChange Rows.ldlFactorSpec).bare Rows.ldlFactorRow = true := by kernel_rfl
theorem fact3 : Tryz.f4.isInstance Tryz.pinned.checked.prog Rows.ldlFactorRow.origin Rows.ldlFactorRow.targs := of_decide_eq_true (by kernel_rfl)
theorem fact4 : Tryz.f4.isWrapper Tryz.pinned.checked.prog Rows.ldlFactorRow.wrapper Rows.ldlFactorRow.mainSum := by unfold Func.isWrapper; first | (rw [if_pos (by decide +kernel)]; kernel_rfl) | (rw [if_neg (by decide +kernel)]; exact ⟨rfl, rfl⟩)
end Go.Proofs.YtmbfcbbkbefgfaaGreatDoor.ldlFactor
