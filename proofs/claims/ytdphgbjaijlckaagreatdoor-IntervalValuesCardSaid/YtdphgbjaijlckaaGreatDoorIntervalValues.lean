/-
  Proved: the statement IntervalValuesCardSaid of this seat: the Go function IntervalValues returns true (EvalPoly contains the values at the points of a box, and the enclosures for the parts of a split box are contained in that for the box.), at every input that the statement allows, and writes nothing that was there; the tables of the library that it reads are tied to the program by the given tie; without further conditions.
-/
import Derived.Test.YtdphgbjaijlckaaGreatDoorCards
import Derived.Test.YtdphgbjaijlckaaGreatDoorTie
import Derived.Test.YtdphgbjaijlckaaGreatDoorG23
import Derived.Test.YtdphgbjaijlckaaGreatDoorG27
import Derived.Test.YtdphgbjaijlckaaGreatDoorIntervalValuesF
import Derived.WalkKit
import Derived.ProofKit
import Derived.OpenShut
import Derived.ShutString
import Derived.ChangeOld
import Derived.Below
import Derived.Deep.DeepHandedRow
namespace Go.Proofs.YtdphgbjaijlckaaGreatDoor.intervalValues
open Go Go.ChangeShapes Go.WideShapes Go.ChangeAt Go.RowKit
open Go.ChangeMaps (open_string shut_string)
set_option linter.unusedVariables false

theorem own : ownKnob Tryz.prog.godebug = none := by kernel_rfl
theorem laidOut : laidOutB Tryz.prog = true := by kernel_rfl
set_option maxRecDepth 100000 in
theorem contract (H : Type) (enc : TypeId × Value → H) (W : World) (base : Nat) (args : Array Value) (ds gs : List (DataW H)) (before : List MemPlace)
    (hval : ∀ (j : Nat) t v, Tryz.f6.params[j]? = some t → args[j]? = some v → Value.okWide Tryz.prog W .any base t v)
    (hW : DataW.Whole enc Tryz.prog Tryz.f6.params.toList Rows.intervalValuesSpec.vars false W args.toList ds gs before) (hL : laidMetH Tryz.prog Rows.intervalValuesRow.laid W) (hs : (DataW.weightsEach Tryz.prog (Tryz.f6.params.toList ++ (OpenSpec.ofChange Rows.intervalValuesSpec).bare.plain.varTypes Tryz.prog) (ds ++ gs)).all (· ≤ reachBytes) = true) :
    Calls Tryz.prog 6 args W fun e W' => ∃ v, e = .returned v ∧ Rows.intervalValuesSpec.post enc Tryz.prog Tryz.f6 false true false false W args v W' := by
  have gl : Go.Proofs.YtdphgbjaijlckaaGreatDoor.Gl (Go.Proofs.YtdphgbjaijlckaaGreatDoor.memOf W) := Go.Proofs.YtdphgbjaijlckaaGreatDoor.tabs_gl hL
  have hW' := hW
  obtain ⟨p, q, hA0, hV, rfl, hfz, hnd⟩ := hW
  have hA : DataW.TrodAll enc Tryz.prog W 0 (fun _ => true) true Tryz.f6.params.toList args.toList ds p := hA0
  rw [Tryz.params6] at hA hval hs
  obtain ⟨v0, vs0, d0, ds0, p0, q0, hargs, rfl, rfl, h0, r0⟩ := trodAll_cons hA
  obtain ⟨v1, vs1, d1, ds1, p1, q1, rfl, rfl, rfl, h1, r1⟩ := trodAll_cons r0
  obtain ⟨v2, vs2, d2, ds2, p2, q2, rfl, rfl, rfl, h2, r2⟩ := trodAll_cons r1
  obtain ⟨v3, vs3, d3, ds3, p3, q3, rfl, rfl, rfl, h3, r3⟩ := trodAll_cons r2
  obtain ⟨rfl, rfl, rfl⟩ := trodAll_nil r3
  obtain rfl : args = #[v0, v1, v2, v3] := by cases args; simp_all
  obtain ⟨rfl, rfl⟩ := trodVars_none hV
  have z1 : ∀ n ∈ d1.weights Tryz.prog 65, n ≤ 140737488351232 := Go.Proofs.YtdphgbjaijlckaaGreatDoor.wts_at hs (j := 1) rfl rfl
  clear hs
  have k0 := h0
  have lt0 : ∀ x ∈ p0, x.block < W.heap.size := by obtain ⟨m, hm⟩ := k0; exact DataW.trod_lt m _ _ _ hm
  obtain ⟨x0, a0, c0, l0, rfl, s0⟩ := Go.Proofs.YtdphgbjaijlckaaGreatDoor.open_poly Tryz.underlying64 Tryz.underlying3 Tryz.underlying62 Tryz.underlying123 Tryz.underlying9 Tryz.underlying113 Tryz.underlying3 (by refine ⟨⟨rfl, rfl, rfl, rfl⟩, ?_, ?_, ?_, ?_, ?_, ?_, ?_⟩ <;> kernel_rfl) (hval 0 64 v0 rfl rfl) h0
  have k1 := h1
  have lt1 : ∀ x ∈ p1, x.block < W.heap.size := by obtain ⟨m, hm⟩ := k1; exact DataW.trod_lt m _ _ _ hm
  obtain ⟨a1, n1, c1, rfl⟩ := okWide_slice Tryz.underlying65 (hval 1 65 v1 rfl rfl)
  obtain ⟨f1, hf1⟩ := h1
  obtain ⟨l1, rfl, s1, b1, e1⟩ := Go.Proofs.YtdphgbjaijlckaaGreatDoor.open_ivsZ Tryz.underlying65 Tryz.underlying23 Tryz.underlying9 Tryz.underlying9 (by refine ⟨⟨rfl, rfl⟩, ?_, ?_, ?_⟩ <;> kernel_rfl) (by kernel_rfl) hf1 z1
  have k2 := h2
  have lt2 : ∀ x ∈ p2, x.block < W.heap.size := by obtain ⟨m, hm⟩ := k2; exact DataW.trod_lt m _ _ _ hm
  obtain ⟨a2, n2, c2, rfl⟩ := okWide_slice Tryz.underlying52 (hval 2 52 v2 rfl rfl)
  obtain ⟨f2, hf2⟩ := h2
  obtain ⟨l2, s2⟩ := Go.Proofs.YtdphgbjaijlckaaGreatDoor.open_strX Tryz.underlying52 Tryz.underlying9 (by kernel_rfl) hf2
  obtain ⟨x3, rfl, rfl, rfl, hx3⟩ := open_int Tryz.underlying3 (hval 3 3 v3 rfl rfl) h3
  clear hA0
  refine (Go.Proofs.YtdphgbjaijlckaaGreatDoor.frame_of (Go.Proofs.YtdphgbjaijlckaaGreatDoor.law_values gl s0 s1 b1 e1 s2)).mono fun e W' ⟨he, bel⟩ => ?_
  subst he
  exact ⟨_, rfl, _, _, _, [], _, [], hW', trodAll_mk1 (shut_bool Tryz.underlying4 _), (trodAll_cons_mk (Below.trod laidOut (by kernel_rfl) (of_decide_eq_true (by kernel_rfl)) k0 bel lt0) (trodAll_cons_mk (Below.trod laidOut (by kernel_rfl) (of_decide_eq_true (by kernel_rfl)) k1 bel lt1) (trodAll_cons_mk (Below.trod laidOut (by kernel_rfl) (of_decide_eq_true (by kernel_rfl)) k2 bel lt2) (trodAll_cons_mk (shut_int Tryz.underlying3 hx3) trodAll_mk0)))), rfl, bel.frame _, fun h => by cases h⟩

theorem laid_met (os : Os) : laidMet Tryz.prog Rows.intervalValuesRow.laid (({ World.holding Tryz.prog os ⟨#[], #[], []⟩ with heap := Go.Proofs.YtdphgbjaijlckaaGreatDoor.layTabs (World.holding Tryz.prog os ⟨#[], #[], []⟩).heap }).forCall (fun _ _ => 0) ⟨#[], #[.agg #[.int .i64 0, .slice none 0 0], .slice none 0 0, .slice none 0 0, .int .i64 0], []⟩).memory :=
  laidMet_of_run' 80 (by kernel_rfl) (by kernel_rfl)
theorem reads (os : Os) {H : Type} (enc : TypeId × Value → H) : ∃ places, DataW.whole enc Tryz.prog (({ World.holding Tryz.prog os ⟨#[], #[], []⟩ with heap := Go.Proofs.YtdphgbjaijlckaaGreatDoor.layTabs (World.holding Tryz.prog os ⟨#[], #[], []⟩).heap }).forCall (fun _ _ => 0) ⟨#[], #[.agg #[.int .i64 0, .slice none 0 0], .slice none 0 0, .slice none 0 0, .int .i64 0], []⟩).memory Tryz.f6.params.toList Rows.intervalValuesSpec.vars false (#[Value.agg #[.int .i64 0, .slice none 0 0], Value.slice none 0 0, Value.slice none 0 0, Value.int .i64 0] : Array Value).toList 8 = some ([.agg [.lit (.int .i64 0), .nil], .nil, .nil, .lit (.int .i64 0)], [], places) :=
  ⟨[], by kernel_rfl⟩
set_option maxRecDepth 100000 in
theorem lifted (os : Os) (started : os.Started) (H : Type) (enc : TypeId × Value → H) (F : Stop.Interp) :
    ReturnsInHanded {} Tryz.checked os 6 .any ((OpenSpec.ofChange Rows.intervalValuesSpec).preRow enc Tryz.prog Tryz.f6 Rows.intervalValuesRow.domain false Rows.intervalValuesRow.laid) (((OpenSpec.ofChange Rows.intervalValuesSpec).at F).post enc Tryz.prog Tryz.f6 false true false false) := by
  obtain ⟨places, hx⟩ := reads os enc
  refine returnsInHanded_of_row (C := Tryz.checked) (s := (OpenSpec.ofChange Rows.intervalValuesSpec)) own started (by kernel_rfl) Tryz.func6
    (witness_row_at (enc := enc) (C := Tryz.checked) false ({ World.holding Tryz.prog os ⟨#[], #[], []⟩ with heap := Go.Proofs.YtdphgbjaijlckaaGreatDoor.layTabs (World.holding Tryz.prog os ⟨#[], #[], []⟩).heap }) #[.agg #[.int .i64 0, .slice none 0 0], .slice none 0 0, .slice none 0 0, .int .i64 0] rfl (by kernel_rfl) (by kernel_rfl) (by kernel_rfl)
      (OpenSpec.preRow_of_cond 8 hx (by kernel_rfl) (fun k hk => by cases hk) (by kernel_rfl) (laid_met os))) ?_
  intro W base args ds gs before hval hW _ _ hs hL _ _
  exact contract H enc W base args ds gs before hval hW hL hs
theorem said : Rows.IntervalValuesSaid :=
  OpenClaim.holds_of_cond 6 Tryz.f6 rfl rfl rfl rfl rfl rfl rfl ⟨rfl, rfl, rfl, rfl, rfl⟩ rfl rfl rfl rfl rfl fact1 Tryz.func6 fact2 fact3 fact4
    (fun os started H enc _ F => by rw [OpenClaim.pre_eq_preRow]; exact lifted os started H enc F)
theorem plain (f : FuncId) (fn : Func) (hf : Tryz.pinned.checked.prog.funcNamed "sosopt/sosoptlaw20.IntervalValues" = some f) (hfn : Tryz.pinned.checked.prog.funcs[f]? = some fn) :
    false = Tryz.pinned.checked.prog.looks [] ∧ ∀ (j : Nat) t, fn.params[j]? = some t → Tryz.pinned.checked.prog.wantsStandIn t = false := by
  obtain rfl : f = 6 := Option.some.inj ((show Tryz.prog.funcNamed "sosopt/sosoptlaw20.IntervalValues" = some 6 by kernel_rfl).symm.trans hf) |>.symm
  obtain rfl : fn = Tryz.f6 := (Option.some.inj (Tryz.func6.symm.trans hfn)).symm
  refine ⟨by kernel_rfl, fun j t ht => ?_⟩
  rw [Tryz.params6] at ht
  have hm := Array.mem_of_getElem? ht
  have hc : t = 64 ∨ t = 65 ∨ t = 52 ∨ t = 3 := by simpa using hm
  rcases hc with rfl | rfl | rfl | rfl
  · exact (show Tryz.prog.wantsStandIn 64 = false by kernel_rfl)
  · exact (show Tryz.prog.wantsStandIn 65 = false by kernel_rfl)
  · exact (show Tryz.prog.wantsStandIn 52 = false by kernel_rfl)
  · exact (show Tryz.prog.wantsStandIn 3 = false by kernel_rfl)
/-- THE CARD -/
theorem card : Rows.IntervalValuesCardSaid :=
  Claim7.holds_tied_plain_at .later [] _ _ _ _ said (fun _ h => by cases h) (by kernel_rfl) (fun _ h => by cases h) intervalValues_row_tie rfl ⟨rfl, rfl⟩ (by kernel_rfl) rfl plain (by kernel_rfl)
#print axioms card
end Go.Proofs.YtdphgbjaijlckaaGreatDoor.intervalValues
