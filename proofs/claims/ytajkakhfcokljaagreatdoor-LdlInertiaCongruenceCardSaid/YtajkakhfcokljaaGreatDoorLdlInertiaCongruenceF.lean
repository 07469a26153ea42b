/-
  Closed facts on the row of LdlInertiaCongruence, each by the kernel: used in YtajkakhfcokljaaGreatDoorLdlInertiaCongruence.
-/
import Derived.Test.YtajkakhfcokljaaGreatDoorCards
import Derived.WalkKit
import Derived.ProofKit
import Derived.Deep.DeepHandedRow
namespace Go.Proofs.YtajkakhfcokljaaGreatDoor.ldlInertiaCongruence
open Go Go.RowKit
theorem fact1 : Tryz.pinned.checked.prog.funcNamed Rows.ldlInertiaCongruenceRow.func = some 8 := by kernel_rfl
theorem fact2 : joinedFacts Tryz.pinned.checked.prog 8 Tryz.f8 (OpenSpec.ofChange Rows.ldlInertiaCongruenceSpec).bare Rows.ldlInertiaCongruenceRow = true := by kernel_rfl
theorem fact3 : Tryz.f8.isInstance Tryz.pinned.checked.prog Rows.ldlInertiaCongruenceRow.origin Rows.ldlInertiaCongruenceRow.targs := of_decide_eq_true (by kernel_rfl)
theorem fact4 : Tryz.f8.isWrapper Tryz.pinned.checked.prog Rows.ldlInertiaCongruenceRow.wrapper Rows.ldlInertiaCongruenceRow.mainSum := by unfold Func.isWrapper; first | (rw [if_pos (by decide +kernel)]; kernel_rfl) | (rw [if_neg (by decide +kernel)]; exact ⟨rfl, rfl⟩)
end Go.Proofs.YtajkakhfcokljaaGreatDoor.ldlInertiaCongruence
