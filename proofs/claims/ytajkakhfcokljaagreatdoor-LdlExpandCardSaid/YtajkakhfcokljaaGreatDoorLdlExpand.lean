/-
  Proved: the statement LdlExpandCardSaid of this seat: the Go function LdlExpand returns true (Expand and Check are as specified for arbitrary factorisations.), at every input that the statement allows, and writes nothing that was there; the tables of the library that it reads are tied to the program by the given tie; without further conditions.
-/
import Derived.Test.YtajkakhfcokljaaGreatDoorCards
import Derived.Test.YtajkakhfcokljaaGreatDoorTie
import Derived.Test.YtajkakhfcokljaaGreatDoorG22
import Derived.Test.YtajkakhfcokljaaGreatDoorG34
import Derived.Test.YtajkakhfcokljaaGreatDoorLdlExpandF
import Derived.WalkKit
import Derived.ProofKit
import Derived.OpenShut
import Derived.ShutString
import Derived.ChangeOld
import Derived.Below
import Derived.Deep.DeepHandedRow
namespace Go.Proofs.YtajkakhfcokljaaGreatDoor.ldlExpand
open Go Go.ChangeShapes Go.WideShapes Go.ChangeAt Go.RowKit
open Go.ChangeMaps (open_string shut_string)
set_option linter.unusedVariables false

theorem own : ownKnob Tryz.prog.godebug = none := by kernel_rfl
theorem laidOut : laidOutB Tryz.prog = true := by kernel_rfl
set_option maxRecDepth 100000 in
theorem contract (H : Type) (enc : TypeId × Value → H) (W : World) (base : Nat) (args : Array Value) (ds gs : List (DataW H)) (before : List MemPlace)
    (hval : ∀ (j : Nat) t v, Tryz.f7.params[j]? = some t → args[j]? = some v → Value.okWide Tryz.prog W .any base t v)
    (hW : DataW.Whole enc Tryz.prog Tryz.f7.params.toList Rows.ldlExpandSpec.vars false W args.toList ds gs before) (hL : laidMetH Tryz.prog Rows.ldlExpandRow.laid W) :
    Calls Tryz.prog 7 args W fun e W' => ∃ v, e = .returned v ∧ Rows.ldlExpandSpec.post enc Tryz.prog Tryz.f7 false true false false W args v W' := by
  have gl : Go.Proofs.YtajkakhfcokljaaGreatDoor.Gl (Go.Proofs.YtajkakhfcokljaaGreatDoor.memOf W) := Go.Proofs.YtajkakhfcokljaaGreatDoor.tabs_gl hL
  have hW' := hW
  obtain ⟨p, q, hA0, hV, rfl, hfz, hnd⟩ := hW
  have hA : DataW.TrodAll enc Tryz.prog W 0 (fun _ => true) true Tryz.f7.params.toList args.toList ds p := hA0
  rw [Tryz.params7] at hA hval
  obtain ⟨v0, vs0, d0, ds0, p0, q0, hargs, rfl, rfl, h0, r0⟩ := trodAll_cons hA
  obtain ⟨v1, vs1, d1, ds1, p1, q1, rfl, rfl, rfl, h1, r1⟩ := trodAll_cons r0
  obtain ⟨rfl, rfl, rfl⟩ := trodAll_nil r1
  obtain rfl : args = #[v0, v1] := by cases args; simp_all
  obtain ⟨rfl, rfl⟩ := trodVars_none hV
  have k0 := h0
  have lt0 : ∀ x ∈ p0, x.block < W.heap.size := by obtain ⟨m, hm⟩ := k0; exact DataW.trod_lt m _ _ _ hm
  obtain ⟨x0, y0, a0, n0, c0, l0, rfl, s0, _⟩ := Go.Proofs.YtajkakhfcokljaaGreatDoor.open_mat Tryz.underlying25 Tryz.underlying3 Tryz.underlying3 Tryz.underlying23 Tryz.underlying9 (by refine ⟨rfl, rfl, rfl, ?_, ?_, ?_, ?_, ?_⟩ <;> kernel_rfl) (hval 0 25 v0 rfl rfl) h0
  have k1 := h1
  have lt1 : ∀ x ∈ p1, x.block < W.heap.size := by obtain ⟨m, hm⟩ := k1; exact DataW.trod_lt m _ _ _ hm
  obtain ⟨x1, y1, a1, n1, c1, aa1, nn1, cc1, l1, ll1, rfl, s1, ss1⟩ := Go.Proofs.YtajkakhfcokljaaGreatDoor.open_ldl Tryz.underlying72 Tryz.underlying25 Tryz.underlying3 Tryz.underlying3 Tryz.underlying23 Tryz.underlying23 Tryz.underlying9 (by refine ⟨⟨rfl, rfl, rfl, rfl, rfl⟩, ?_, ?_, ?_, ?_, ?_, ?_, ?_⟩ <;> kernel_rfl) (hval 1 72 v1 rfl rfl) h1
  clear hA0
  refine (Go.Proofs.YtajkakhfcokljaaGreatDoor.frame_of (Go.Proofs.YtajkakhfcokljaaGreatDoor.law_ldlExpand gl s0 s1 ss1)).mono fun e W' ⟨he, bel⟩ => ?_
  subst he
  exact ⟨_, rfl, _, _, _, [], _, [], hW', trodAll_mk1 (shut_bool Tryz.underlying4 _), (trodAll_cons_mk (Below.trod laidOut (by kernel_rfl) (of_decide_eq_true (by kernel_rfl)) k0 bel lt0) (trodAll_cons_mk (Below.trod laidOut (by kernel_rfl) (of_decide_eq_true (by kernel_rfl)) k1 bel lt1) trodAll_mk0)), rfl, bel.frame _, fun h => by cases h⟩

theorem laid_met (os : Os) : laidMet Tryz.prog Rows.ldlExpandRow.laid (({ World.holding Tryz.prog os ⟨#[], #[], []⟩ with heap := Go.Proofs.YtajkakhfcokljaaGreatDoor.layTabs (World.holding Tryz.prog os ⟨#[], #[], []⟩).heap }).forCall (fun _ _ => 0) ⟨#[], #[.agg #[.int .i64 0, .int .i64 0, .slice none 0 0], .agg #[.int .i64 0, .int .i64 0, .slice none 0 0, .slice none 0 0]], []⟩).memory :=
  laidMet_of_run' 80 (by kernel_rfl) (by kernel_rfl)
theorem reads (os : Os) {H : Type} (enc : TypeId × Value → H) : ∃ places, DataW.whole enc Tryz.prog (({ World.holding Tryz.prog os ⟨#[], #[], []⟩ with heap := Go.Proofs.YtajkakhfcokljaaGreatDoor.layTabs (World.holding Tryz.prog os ⟨#[], #[], []⟩).heap }).forCall (fun _ _ => 0) ⟨#[], #[.agg #[.int .i64 0, .int .i64 0, .slice none 0 0], .agg #[.int .i64 0, .int .i64 0, .slice none 0 0, .slice none 0 0]], []⟩).memory Tryz.f7.params.toList Rows.ldlExpandSpec.vars false (#[Value.agg #[.int .i64 0, .int .i64 0, .slice none 0 0], Value.agg #[.int .i64 0, .int .i64 0, .slice none 0 0, .slice none 0 0]] : Array Value).toList 8 = some ([.agg [.lit (.int .i64 0), .lit (.int .i64 0), .nil], .agg [.agg [.lit (.int .i64 0), .lit (.int .i64 0), .nil], .nil]], [], places) :=
  ⟨[], by kernel_rfl⟩
set_option maxRecDepth 100000 in
theorem lifted (os : Os) (started : os.Started) (H : Type) (enc : TypeId × Value → H) (F : Stop.Interp) :
    ReturnsInHanded {} Tryz.checked os 7 .any ((OpenSpec.ofChange Rows.ldlExpandSpec).preRow enc Tryz.prog Tryz.f7 Rows.ldlExpandRow.domain false Rows.ldlExpandRow.laid) (((OpenSpec.ofChange Rows.ldlExpandSpec).at F).post enc Tryz.prog Tryz.f7 false true false false) := by
  obtain ⟨places, hx⟩ := reads os enc
  refine returnsInHanded_of_row (C := Tryz.checked) (s := (OpenSpec.ofChange Rows.ldlExpandSpec)) own started (by kernel_rfl) Tryz.func7
    (witness_row_at (enc := enc) (C := Tryz.checked) false ({ World.holding Tryz.prog os ⟨#[], #[], []⟩ with heap := Go.Proofs.YtajkakhfcokljaaGreatDoor.layTabs (World.holding Tryz.prog os ⟨#[], #[], []⟩).heap }) #[.agg #[.int .i64 0, .int .i64 0, .slice none 0 0], .agg #[.int .i64 0, .int .i64 0, .slice none 0 0, .slice none 0 0]] rfl (by kernel_rfl) (by kernel_rfl) (by kernel_rfl)
      (OpenSpec.preRow_of_cond 8 hx (by kernel_rfl) (fun k hk => by cases hk) (by kernel_rfl) (laid_met os))) ?_
  intro W base args ds gs before hval hW _ _ _ hL _ _
  exact contract H enc W base args ds gs before hval hW hL
theorem said : Rows.LdlExpandSaid :=
  OpenClaim.holds_of_cond 7 Tryz.f7 rfl rfl rfl rfl rfl rfl rfl ⟨rfl, rfl, rfl, rfl, rfl⟩ rfl rfl rfl rfl rfl fact1 Tryz.func7 fact2 fact3 fact4
    (fun os started H enc _ F => by rw [OpenClaim.pre_eq_preRow]; exact lifted os started H enc F)
theorem plain (f : FuncId) (fn : Func) (hf : Tryz.pinned.checked.prog.funcNamed "sosopt/sosoptlaw04.LdlExpand" = some f) (hfn : Tryz.pinned.checked.prog.funcs[f]? = some fn) :
    false = Tryz.pinned.checked.prog.looks [] ∧ ∀ (j : Nat) t, fn.params[j]? = some t → Tryz.pinned.checked.prog.wantsStandIn t = false := by
  obtain rfl : f = 7 := Option.some.inj ((show Tryz.prog.funcNamed "sosopt/sosoptlaw04.LdlExpand" = some 7 by kernel_rfl).symm.trans hf) |>.symm
  obtain rfl : fn = Tryz.f7 := (Option.some.inj (Tryz.func7.symm.trans hfn)).symm
  refine ⟨by kernel_rfl, fun j t ht => ?_⟩
  rw [Tryz.params7] at ht
  have hm := Array.mem_of_getElem? ht
  have hc : t = 25 ∨ t = 72 := by simpa using hm
  rcases hc with rfl | rfl
  · exact (show Tryz.prog.wantsStandIn 25 = false by kernel_rfl)
  · exact (show Tryz.prog.wantsStandIn 72 = false by kernel_rfl)
/-- THE CARD -/
theorem card : Rows.LdlExpandCardSaid :=
  Claim7.holds_tied_plain_at .later [] _ _ _ _ said (fun _ h => by cases h) (by kernel_rfl) (fun _ h => by cases h) ldlExpand_row_tie rfl ⟨rfl, rfl⟩ (by kernel_rfl) rfl plain (by kernel_rfl)
#print axioms card
end Go.Proofs.YtajkakhfcokljaaGreatDoor.ldlExpand
