/-
  Proved: the statement MatrixNewCardSaid of this seat: the Go function MatrixNew returns true (Valid, New, Identity and At are as specified for arbitrary arguments.), at every input that the statement allows, and writes nothing that was there; the tables of the library that it reads are tied to the program by the given tie; without further conditions.
-/
import Derived.Test.YtdphgbjaijlckaaGreatDoorCards
import Derived.Test.YtdphgbjaijlckaaGreatDoorTie
import Derived.Test.YtdphgbjaijlckaaGreatDoorG19
import Derived.Test.YtdphgbjaijlckaaGreatDoorG25
import Derived.Test.YtdphgbjaijlckaaGreatDoorMatrixNewF
import Derived.WalkKit
import Derived.ProofKit
import Derived.OpenShut
import Derived.ShutString
import Derived.ChangeOld
import Derived.Below
import Derived.Deep.DeepHandedRow
namespace Go.Proofs.YtdphgbjaijlckaaGreatDoor.matrixNew
open Go Go.ChangeShapes Go.WideShapes Go.ChangeAt Go.RowKit
open Go.ChangeMaps (open_string shut_string)
set_option linter.unusedVariables false

theorem own : ownKnob Tryz.prog.godebug = none := by kernel_rfl
theorem laidOut : laidOutB Tryz.prog = true := by kernel_rfl
set_option maxRecDepth 100000 in
theorem contract (H : Type) (enc : TypeId × Value → H) (W : World) (base : Nat) (args : Array Value) (ds gs : List (DataW H)) (before : List MemPlace)
    (hval : ∀ (j : Nat) t v, Tryz.f5.params[j]? = some t → args[j]? = some v → Value.okWide Tryz.prog W .any base t v)
    (hW : DataW.Whole enc Tryz.prog Tryz.f5.params.toList Rows.matrixNewSpec.vars false W args.toList ds gs before) (hL : laidMetH Tryz.prog Rows.matrixNewRow.laid W) (hs : (DataW.weightsEach Tryz.prog (Tryz.f5.params.toList ++ (OpenSpec.ofChange Rows.matrixNewSpec).bare.plain.varTypes Tryz.prog) (ds ++ gs)).all (· ≤ reachBytes) = true) :
    Calls Tryz.prog 5 args W fun e W' => ∃ v, e = .returned v ∧ Rows.matrixNewSpec.post enc Tryz.prog Tryz.f5 false true false false W args v W' := by
  have gl : Go.Proofs.YtdphgbjaijlckaaGreatDoor.Gl (Go.Proofs.YtdphgbjaijlckaaGreatDoor.memOf W) := Go.Proofs.YtdphgbjaijlckaaGreatDoor.tabs_gl hL
  have hW' := hW
  obtain ⟨p, q, hA0, hV, rfl, hfz, hnd⟩ := hW
  have hA : DataW.TrodAll enc Tryz.prog W 0 (fun _ => true) true Tryz.f5.params.toList args.toList ds p := hA0
  rw [Tryz.params5] at hA hval hs
  obtain ⟨v0, vs0, d0, ds0, p0, q0, hargs, rfl, rfl, h0, r0⟩ := trodAll_cons hA
  obtain ⟨v1, vs1, d1, ds1, p1, q1, rfl, rfl, rfl, h1, r1⟩ := trodAll_cons r0
  obtain ⟨v2, vs2, d2, ds2, p2, q2, rfl, rfl, rfl, h2, r2⟩ := trodAll_cons r1
  obtain ⟨v3, vs3, d3, ds3, p3, q3, rfl, rfl, rfl, h3, r3⟩ := trodAll_cons r2
  obtain ⟨v4, vs4, d4, ds4, p4, q4, rfl, rfl, rfl, h4, r4⟩ := trodAll_cons r3
  obtain ⟨rfl, rfl, rfl⟩ := trodAll_nil r4
  obtain rfl : args = #[v0, v1, v2, v3, v4] := by cases args; simp_all
  obtain ⟨rfl, rfl⟩ := trodVars_none hV
  have z1 : ∀ n ∈ d1.weights Tryz.prog 54, n ≤ 140737488351232 := Go.Proofs.YtdphgbjaijlckaaGreatDoor.wts_at hs (j := 1) rfl rfl
  clear hs
  have k0 := h0
  have lt0 : ∀ x ∈ p0, x.block < W.heap.size := by obtain ⟨m, hm⟩ := k0; exact DataW.trod_lt m _ _ _ hm
  obtain ⟨a0, n0, c0, rfl⟩ := okWide_slice Tryz.underlying51 (hval 0 51 v0 rfl rfl)
  obtain ⟨f0, hf0⟩ := h0
  obtain ⟨w0, l0, s0⟩ := Go.Proofs.YtdphgbjaijlckaaGreatDoor.open_rows Tryz.underlying51 Tryz.underlying52 Tryz.underlying9 (by kernel_rfl) (by kernel_rfl) hf0
  have k1 := h1
  have lt1 : ∀ x ∈ p1, x.block < W.heap.size := by obtain ⟨m, hm⟩ := k1; exact DataW.trod_lt m _ _ _ hm
  obtain ⟨x1, y1, a1, n1, c1, l1, rfl, s1, b1⟩ := Go.Proofs.YtdphgbjaijlckaaGreatDoor.open_matZ Tryz.underlying54 Tryz.underlying3 Tryz.underlying3 Tryz.underlying52 Tryz.underlying9 (by refine ⟨rfl, rfl, rfl, ?_, ?_, ?_, ?_, ?_⟩ <;> kernel_rfl) (by kernel_rfl) (hval 1 54 v1 rfl rfl) h1 z1
  obtain ⟨x2, rfl, rfl, rfl, hx2⟩ := open_int Tryz.underlying3 (hval 2 3 v2 rfl rfl) h2
  obtain ⟨x3, rfl, rfl, rfl, hx3⟩ := open_int Tryz.underlying3 (hval 3 3 v3 rfl rfl) h3
  obtain ⟨x4, rfl, rfl, rfl, hx4⟩ := open_int Tryz.underlying3 (hval 4 3 v4 rfl rfl) h4
  clear hA0
  refine (Go.Proofs.YtdphgbjaijlckaaGreatDoor.frame_of (Go.Proofs.YtdphgbjaijlckaaGreatDoor.law_matrixNew gl s0 s1 b1)).mono fun e W' ⟨he, bel⟩ => ?_
  subst he
  exact ⟨_, rfl, _, _, _, [], _, [], hW', trodAll_mk1 (shut_bool Tryz.underlying4 _), (trodAll_cons_mk (Below.trod laidOut (by kernel_rfl) (of_decide_eq_true (by kernel_rfl)) k0 bel lt0) (trodAll_cons_mk (Below.trod laidOut (by kernel_rfl) (of_decide_eq_true (by kernel_rfl)) k1 bel lt1) (trodAll_cons_mk (shut_int Tryz.underlying3 hx2) (trodAll_cons_mk (shut_int Tryz.underlying3 hx3) (trodAll_cons_mk (shut_int Tryz.underlying3 hx4) trodAll_mk0))))), rfl, bel.frame _, fun h => by cases h⟩

theorem laid_met (os : Os) : laidMet Tryz.prog Rows.matrixNewRow.laid (({ World.holding Tryz.prog os ⟨#[], #[], []⟩ with heap := Go.Proofs.YtdphgbjaijlckaaGreatDoor.layTabs (World.holding Tryz.prog os ⟨#[], #[], []⟩).heap }).forCall (fun _ _ => 0) ⟨#[], #[.slice none 0 0, .agg #[.int .i64 0, .int .i64 0, .slice none 0 0], .int .i64 0, .int .i64 0, .int .i64 0], []⟩).memory :=
  laidMet_of_run' 80 (by kernel_rfl) (by kernel_rfl)
theorem reads (os : Os) {H : Type} (enc : TypeId × Value → H) : ∃ places, DataW.whole enc Tryz.prog (({ World.holding Tryz.prog os ⟨#[], #[], []⟩ with heap := Go.Proofs.YtdphgbjaijlckaaGreatDoor.layTabs (World.holding Tryz.prog os ⟨#[], #[], []⟩).heap }).forCall (fun _ _ => 0) ⟨#[], #[.slice none 0 0, .agg #[.int .i64 0, .int .i64 0, .slice none 0 0], .int .i64 0, .int .i64 0, .int .i64 0], []⟩).memory Tryz.f5.params.toList Rows.matrixNewSpec.vars false (#[Value.slice none 0 0, Value.agg #[.int .i64 0, .int .i64 0, .slice none 0 0], Value.int .i64 0, Value.int .i64 0, Value.int .i64 0] : Array Value).toList 8 = some ([.nil, .agg [.lit (.int .i64 0), .lit (.int .i64 0), .nil], .lit (.int .i64 0), .lit (.int .i64 0), .lit (.int .i64 0)], [], places) :=
  ⟨[], by kernel_rfl⟩
set_option maxRecDepth 100000 in
theorem lifted (os : Os) (started : os.Started) (H : Type) (enc : TypeId × Value → H) (F : Stop.Interp) :
    ReturnsInHanded {} Tryz.checked os 5 .any ((OpenSpec.ofChange Rows.matrixNewSpec).preRow enc Tryz.prog Tryz.f5 Rows.matrixNewRow.domain false Rows.matrixNewRow.laid) (((OpenSpec.ofChange Rows.matrixNewSpec).at F).post enc Tryz.prog Tryz.f5 false true false false) := by
  obtain ⟨places, hx⟩ := reads os enc
  refine returnsInHanded_of_row (C := Tryz.checked) (s := (OpenSpec.ofChange Rows.matrixNewSpec)) own started (by kernel_rfl) Tryz.func5
    (witness_row_at (enc := enc) (C := Tryz.checked) false ({ World.holding Tryz.prog os ⟨#[], #[], []⟩ with heap := Go.Proofs.YtdphgbjaijlckaaGreatDoor.layTabs (World.holding Tryz.prog os ⟨#[], #[], []⟩).heap }) #[.slice none 0 0, .agg #[.int .i64 0, .int .i64 0, .slice none 0 0], .int .i64 0, .int .i64 0, .int .i64 0] rfl (by kernel_rfl) (by kernel_rfl) (by kernel_rfl)
      (OpenSpec.preRow_of_cond 8 hx (by kernel_rfl) (fun k hk => by cases hk) (by kernel_rfl) (laid_met os))) ?_
  intro W base args ds gs before hval hW _ _ hs hL _ _
  exact contract H enc W base args ds gs before hval hW hL hs
theorem said : Rows.MatrixNewSaid :=
  OpenClaim.holds_of_cond 5 Tryz.f5 rfl rfl rfl rfl rfl rfl rfl ⟨rfl, rfl, rfl, rfl, rfl⟩ rfl rfl rfl rfl rfl fact1 Tryz.func5 fact2 fact3 fact4
    (fun os started H enc _ F => by rw [OpenClaim.pre_eq_preRow]; exact lifted os started H enc F)
theorem plain (f : FuncId) (fn : Func) (hf : Tryz.pinned.checked.prog.funcNamed "sosopt/sosoptlaw03.MatrixNew" = some f) (hfn : Tryz.pinned.checked.prog.funcs[f]? = some fn) :
    false = Tryz.pinned.checked.prog.looks [] ∧ ∀ (j : Nat) t, fn.params[j]? = some t → Tryz.pinned.checked.prog.wantsStandIn t = false := by
  obtain rfl : f = 5 := Option.some.inj ((show Tryz.prog.funcNamed "sosopt/sosoptlaw03.MatrixNew" = some 5 by kernel_rfl).symm.trans hf) |>.symm
  obtain rfl : fn = Tryz.f5 := (Option.some.inj (Tryz.func5.symm.trans hfn)).symm
  refine ⟨by kernel_rfl, fun j t ht => ?_⟩
  rw [Tryz.params5] at ht
  have hm := Array.mem_of_getElem? ht
  have hc : t = 51 ∨ t = 54 ∨ t = 3 ∨ t = 3 ∨ t = 3 := by simpa using hm
  rcases hc with rfl | rfl | rfl | rfl | rfl
  · exact (show Tryz.prog.wantsStandIn 51 = false by kernel_rfl)
  · exact (show Tryz.prog.wantsStandIn 54 = false by kernel_rfl)
  · exact (show Tryz.prog.wantsStandIn 3 = false by kernel_rfl)
  · exact (show Tryz.prog.wantsStandIn 3 = false by kernel_rfl)
  · exact (show Tryz.prog.wantsStandIn 3 = false by kernel_rfl)
/-- THE CARD -/
theorem card : Rows.MatrixNewCardSaid :=
  Claim7.holds_tied_plain_at .later [] _ _ _ _ said (fun _ h => by cases h) (by kernel_rfl) (fun _ h => by cases h) matrixNew_row_tie rfl ⟨rfl, rfl⟩ (by kernel_rfl) rfl plain (by kernel_rfl)
#print axioms card
end Go.Proofs.YtdphgbjaijlckaaGreatDoor.matrixNew
