/-
  Closed facts on the row of LdlWitnessRaw, each by the kernel: used in YtajkakhfcokljaaGreatDoorLdlWitnessRaw.
-/
import Derived.Test.YtajkakhfcokljaaGreatDoorCards
import Derived.WalkKit
import Derived.ProofKit
import Derived.Deep.DeepHandedRow
namespace Go.Proofs.YtajkakhfcokljaaGreatDoor.ldlWitnessRaw
open Go Go.RowKit
theorem fact1 : Tryz.pinned.checked.prog.funcNamed Rows.ldlWitnessRawRow.func = some 6 := by kernel_rfl
theorem fact2 : joinedFacts Tryz.pinned.checked.prog 6 Tryz.f6 (OpenSpec.ofChange Rows.ldlWitnessRawSpec).bare Rows.ldlWitnessRawRow = true := by kernel_rfl
theorem fact3 : Tryz.f6.isInstance Tryz.pinned.checked.prog Rows.ldlWitnessRawRow.origin Rows.ldlWitnessRawRow.targs := of_decide_eq_true (by kernel_rfl)
theorem fact4 : Tryz.f6.isWrapper Tryz.pinned.checked.prog Rows.ldlWitnessRawRow.wrapper Rows.ldlWitnessRawRow.mainSum := by unfold Func.isWrapper; first | (rw [if_pos (by decide +kernel)]; kernel_rfl) | (rw [if_neg (by decide +kernel)]; exact ⟨rfl, rfl⟩)
end Go.Proofs.YtajkakhfcokljaaGreatDoor.ldlWitnessRaw
