/-
  Closed facts on the row of ExtractRefuses, each by the kernel: used in YteppbhimdjmabaaGreatDoorExtractRefuses.
-/
import Derived.Test.YteppbhimdjmabaaGreatDoorCards
import Derived.WalkKit
import Derived.ProofKit
import Derived.Deep.DeepHandedRow
namespace Go.Proofs.YteppbhimdjmabaaGreatDoor.extractRefuses
open Go Go.RowKit
theorem fact1 : Tryz.pinned.checked.prog.funcNamed Rows.extractRefusesRow.func = some 3 := by kernel_rfl
set_option maxHeartbeats 0 in
theorem fact2 : joinedFacts Tryz.pinned.checked.prog 3 Tryz.f3 (OpenSpec.ofChange Rows.extractRefusesSpec).bare Rows.extractRefusesRow = true := by
  unfold joinedFacts
  simp only [Bool.and_eq_true]
  refine ⟨⟨⟨⟨⟨⟨⟨⟨⟨⟨⟨⟨⟨⟨⟨⟨⟨⟨⟨?_, ?_⟩, ?_⟩, ?_⟩, ?_⟩, ?_⟩, ?_⟩, ?_⟩, ?_⟩, ?_⟩, ?_⟩, ?_⟩, ?_⟩, ?_⟩, ?_⟩, ?_⟩, ?_⟩, ?_⟩, ?_⟩, ?_⟩ <;> decide +kernel
theorem fact3 : Tryz.f3.isInstance Tryz.pinned.checked.prog Rows.extractRefusesRow.origin Rows.extractRefusesRow.targs := of_decide_eq_true (by kernel_rfl)
theorem fact4 : Tryz.f3.isWrapper Tryz.pinned.checked.prog Rows.extractRefusesRow.wrapper Rows.extractRefusesRow.mainSum := by unfold Func.isWrapper; first | (rw [if_pos (by decide +kernel)]; kernel_rfl) | (rw [if_neg (by decide +kernel)]; exact ⟨rfl, rfl⟩)
end Go.Proofs.YteppbhimdjmabaaGreatDoor.extractRefuses
