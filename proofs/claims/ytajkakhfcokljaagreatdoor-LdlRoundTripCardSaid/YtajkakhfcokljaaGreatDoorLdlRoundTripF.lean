/-
  Closed facts on the row of LdlRoundTrip, each by the kernel: used in YtajkakhfcokljaaGreatDoorLdlRoundTrip.
-/
import Derived.Test.YtajkakhfcokljaaGreatDoorCards
import Derived.WalkKit
import Derived.ProofKit
import Derived.Deep.DeepHandedRow
namespace Go.Proofs.YtajkakhfcokljaaGreatDoor.ldlRoundTrip
open Go Go.RowKit
theorem fact1 : Tryz.pinned.checked.prog.funcNamed Rows.ldlRoundTripRow.func = some 11 := by kernel_rfl
theorem fact2 : joinedFacts Tryz.pinned.checked.prog 11 Tryz.f11 (OpenSpec.ofChange Rows.ldlRoundTripSpec).bare Rows.ldlRoundTripRow = true := by kernel_rfl
theorem fact3 : Tryz.f11.isInstance Tryz.pinned.checked.prog Rows.ldlRoundTripRow.origin Rows.ldlRoundTripRow.targs := of_decide_eq_true (by kernel_rfl)
theorem fact4 : Tryz.f11.isWrapper Tryz.pinned.checked.prog Rows.ldlRoundTripRow.wrapper Rows.ldlRoundTripRow.mainSum := by unfold Func.isWrapper; first | (rw [if_pos (by decide +kernel)]; kernel_rfl) | (rw [if_neg (by decide +kernel)]; exact ⟨rfl, rfl⟩)
end Go.Proofs.YtajkakhfcokljaaGreatDoor.ldlRoundTrip
