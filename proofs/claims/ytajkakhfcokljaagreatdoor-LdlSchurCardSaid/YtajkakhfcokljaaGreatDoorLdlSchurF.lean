/-
  Closed facts on the row of LdlSchur, each by the kernel: used in YtajkakhfcokljaaGreatDoorLdlSchur.
-/
import Derived.Test.YtajkakhfcokljaaGreatDoorCards
import Derived.WalkKit
import Derived.ProofKit
import Derived.Deep.DeepHandedRow
namespace Go.Proofs.YtajkakhfcokljaaGreatDoor.ldlSchur
open Go Go.RowKit
theorem fact1 : Tryz.pinned.checked.prog.funcNamed Rows.ldlSchurRow.func = some 12 := by kernel_rfl
theorem fact2 : joinedFacts Tryz.pinned.checked.prog 12 Tryz.f12 (OpenSpec.ofChange Rows.ldlSchurSpec).bare Rows.ldlSchurRow = true := by kernel_rfl
theorem fact3 : Tryz.f12.isInstance Tryz.pinned.checked.prog Rows.ldlSchurRow.origin Rows.ldlSchurRow.targs := of_decide_eq_true (by kernel_rfl)
theorem fact4 : Tryz.f12.isWrapper Tryz.pinned.checked.prog Rows.ldlSchurRow.wrapper Rows.ldlSchurRow.mainSum := by unfold Func.isWrapper; first | (rw [if_pos (by decide +kernel)]; kernel_rfl) | (rw [if_neg (by decide +kernel)]; exact ⟨rfl, rfl⟩)
end Go.Proofs.YtajkakhfcokljaaGreatDoor.ldlSchur
