/-
  Proved: the statement ExtractRefusesCardSaid of this seat: the Go function ExtractRefuses returns true (Points and Moment refuse exactly the extractions that are not valid, for any small values.), at every input that the statement allows, and writes nothing that was there; the tables of the library that it reads are tied to the program by the given tie; without further conditions.
-/
import Derived.Test.YteppbhimdjmabaaGreatDoorCards
import Derived.Test.YteppbhimdjmabaaGreatDoorTie
import Derived.Test.YteppbhimdjmabaaGreatDoorG19
import Derived.Test.YteppbhimdjmabaaGreatDoorG28
import Derived.Test.YteppbhimdjmabaaGreatDoorExtractRefusesF
import Derived.WalkKit
import Derived.ProofKit
import Derived.OpenShut
import Derived.ShutString
import Derived.ChangeOld
import Derived.Below
import Derived.Deep.DeepHandedRow
namespace Go.Proofs.YteppbhimdjmabaaGreatDoor.extractRefuses
open Go Go.ChangeShapes Go.WideShapes Go.ChangeAt Go.RowKit
open Go.ChangeMaps (open_string shut_string)
set_option linter.unusedVariables false

theorem own : ownKnob Tryz.prog.godebug = none := by kernel_rfl
theorem laidOut : laidOutB Tryz.prog = true := by kernel_rfl
set_option maxRecDepth 100000 in
theorem contract (H : Type) (enc : TypeId × Value → H) (W : World) (base : Nat) (args : Array Value) (ds gs : List (DataW H)) (before : List MemPlace)
    (hval : ∀ (j : Nat) t v, Tryz.f3.params[j]? = some t → args[j]? = some v → Value.okWide Tryz.prog W .any base t v)
    (hW : DataW.Whole enc Tryz.prog Tryz.f3.params.toList Rows.extractRefusesSpec.vars false W args.toList ds gs before) (hL : laidMetH Tryz.prog Rows.extractRefusesRow.laid W) :
    Calls Tryz.prog 3 args W fun e W' => ∃ v, e = .returned v ∧ Rows.extractRefusesSpec.post enc Tryz.prog Tryz.f3 false true false false W args v W' := by
  have gl : Go.Proofs.YteppbhimdjmabaaGreatDoor.Gl (Go.Proofs.YteppbhimdjmabaaGreatDoor.memOf W) := Go.Proofs.YteppbhimdjmabaaGreatDoor.tabs_gl hL
  have hW' := hW
  obtain ⟨p, q, hA0, hV, rfl, hfz, hnd⟩ := hW
  have hA : DataW.TrodAll enc Tryz.prog W 0 (fun _ => true) true Tryz.f3.params.toList args.toList ds p := hA0
  rw [Tryz.params3] at hA hval
  obtain ⟨v0, vs0, d0, ds0, p0, q0, hargs, rfl, rfl, h0, r0⟩ := trodAll_cons hA
  obtain ⟨rfl, rfl, rfl⟩ := trodAll_nil r0
  obtain rfl : args = #[v0] := by cases args; simp_all
  obtain ⟨rfl, rfl⟩ := trodVars_none hV
  have k0 := h0
  have lt0 : ∀ x ∈ p0, x.block < W.heap.size := by obtain ⟨m, hm⟩ := k0; exact DataW.trod_lt m _ _ _ hm
  obtain ⟨_, _, _, _, _, _, _, _, _, _, _, _, _, _, _, _, rfl, s0, ss0, sss0⟩ := Go.Proofs.YteppbhimdjmabaaGreatDoor.open_ext Tryz.underlying25 Tryz.underlying22 Tryz.underlying22 Tryz.underlying23 Tryz.underlying22 Tryz.underlying22 Tryz.underlying9 (by refine ⟨⟨rfl, rfl, rfl, rfl⟩, ?_, ?_, ?_, ?_, ?_, ?_, ?_⟩ <;> kernel_rfl) (hval 0 25 v0 rfl rfl) h0
  clear hA0
  refine (Go.Proofs.YteppbhimdjmabaaGreatDoor.frame_of (Go.Proofs.YteppbhimdjmabaaGreatDoor.law_extractRefuses gl s0 ss0 sss0)).mono fun e W' ⟨he, bel⟩ => ?_
  subst he
  exact ⟨_, rfl, _, _, _, [], _, [], hW', trodAll_mk1 (shut_bool Tryz.underlying4 _), (trodAll_cons_mk (Below.trod laidOut (by kernel_rfl) (of_decide_eq_true (by kernel_rfl)) k0 bel lt0) trodAll_mk0), rfl, bel.frame _, fun h => by cases h⟩

theorem laid_met (os : Os) : laidMet Tryz.prog Rows.extractRefusesRow.laid (({ World.holding Tryz.prog os ⟨#[], #[], []⟩ with heap := Go.Proofs.YteppbhimdjmabaaGreatDoor.layTabs (World.holding Tryz.prog os ⟨#[], #[], []⟩).heap }).forCall (fun _ _ => 0) ⟨#[], #[.agg #[.slice none 0 0, .slice none 0 0, .slice none 0 0, .slice none 0 0]], []⟩).memory :=
  laidMet_of_run' 80 (by kernel_rfl) (by kernel_rfl)
theorem reads (os : Os) {H : Type} (enc : TypeId × Value → H) : ∃ places, DataW.whole enc Tryz.prog (({ World.holding Tryz.prog os ⟨#[], #[], []⟩ with heap := Go.Proofs.YteppbhimdjmabaaGreatDoor.layTabs (World.holding Tryz.prog os ⟨#[], #[], []⟩).heap }).forCall (fun _ _ => 0) ⟨#[], #[.agg #[.slice none 0 0, .slice none 0 0, .slice none 0 0, .slice none 0 0]], []⟩).memory Tryz.f3.params.toList Rows.extractRefusesSpec.vars false (#[Value.agg #[.slice none 0 0, .slice none 0 0, .slice none 0 0, .slice none 0 0]] : Array Value).toList 8 = some ([.agg [.nil, .nil, .nil, .nil]], [], places) :=
  ⟨[], by kernel_rfl⟩
set_option maxRecDepth 100000 in
theorem lifted (os : Os) (started : os.Started) (H : Type) (enc : TypeId × Value → H) (F : Stop.Interp) :
    ReturnsInHanded {} Tryz.checked os 3 .any ((OpenSpec.ofChange Rows.extractRefusesSpec).preRow enc Tryz.prog Tryz.f3 Rows.extractRefusesRow.domain false Rows.extractRefusesRow.laid) (((OpenSpec.ofChange Rows.extractRefusesSpec).at F).post enc Tryz.prog Tryz.f3 false true false false) := by
  obtain ⟨places, hx⟩ := reads os enc
  refine returnsInHanded_of_row (C := Tryz.checked) (s := (OpenSpec.ofChange Rows.extractRefusesSpec)) own started (by kernel_rfl) Tryz.func3
    (witness_row_at (enc := enc) (C := Tryz.checked) false ({ World.holding Tryz.prog os ⟨#[], #[], []⟩ with heap := Go.Proofs.YteppbhimdjmabaaGreatDoor.layTabs (World.holding Tryz.prog os ⟨#[], #[], []⟩).heap }) #[.agg #[.slice none 0 0, .slice none 0 0, .slice none 0 0, .slice none 0 0]] rfl (by kernel_rfl) (by kernel_rfl) (by kernel_rfl)
      (OpenSpec.preRow_of_cond 8 hx (by kernel_rfl) (fun k hk => by cases hk) (by kernel_rfl) (laid_met os))) ?_
  intro W base args ds gs before hval hW _ _ _ hL _ _
  exact contract H enc W base args ds gs before hval hW hL
theorem said : Rows.ExtractRefusesSaid :=
  OpenClaim.holds_of_cond 3 Tryz.f3 rfl rfl rfl rfl rfl rfl rfl ⟨rfl, rfl, rfl, rfl, rfl⟩ rfl rfl rfl rfl rfl fact1 Tryz.func3 fact2 fact3 fact4
    (fun os started H enc _ F => by rw [OpenClaim.pre_eq_preRow]; exact lifted os started H enc F)
theorem plain (f : FuncId) (fn : Func) (hf : Tryz.pinned.checked.prog.funcNamed "sosopt/sosoptlaw36.ExtractRefuses" = some f) (hfn : Tryz.pinned.checked.prog.funcs[f]? = some fn) :
    false = Tryz.pinned.checked.prog.looks [] ∧ ∀ (j : Nat) t, fn.params[j]? = some t → Tryz.pinned.checked.prog.wantsStandIn t = false := by
  obtain rfl : f = 3 := Option.some.inj ((show Tryz.prog.funcNamed "sosopt/sosoptlaw36.ExtractRefuses" = some 3 by kernel_rfl).symm.trans hf) |>.symm
  obtain rfl : fn = Tryz.f3 := (Option.some.inj (Tryz.func3.symm.trans hfn)).symm
  refine ⟨by kernel_rfl, fun j t ht => ?_⟩
  rw [Tryz.params3] at ht
  obtain rfl : t = 25 := by simpa using Array.mem_of_getElem? ht
  exact (show Tryz.prog.wantsStandIn 25 = false by kernel_rfl)
/-- THE CARD -/
theorem card : Rows.ExtractRefusesCardSaid :=
  Claim7.holds_tied_plain_at .later [] _ _ _ _ said (fun _ h => by cases h) (by kernel_rfl) (fun _ h => by cases h) extractRefuses_row_tie rfl ⟨rfl, rfl⟩ (by kernel_rfl) rfl plain (by kernel_rfl)
#print axioms card
end Go.Proofs.YteppbhimdjmabaaGreatDoor.extractRefuses
