/-
  Proved: the statement MatrixDeterminantCardSaid of this seat: the Go function MatrixDeterminant returns true (The determinant of a product is the product of the determinants, and its residue modulo a prime is the determinant of the residues.), at every input that the statement allows, and writes nothing that was there; the tables of the library that it reads are tied to the program by the given tie; without further conditions.
-/
import Derived.Test.YtajkakhfcokljaaGreatDoorCards
import Derived.Test.YtajkakhfcokljaaGreatDoorTie
import Derived.Test.YtajkakhfcokljaaGreatDoorG22
import Derived.Test.YtajkakhfcokljaaGreatDoorG33
import Derived.Test.YtajkakhfcokljaaGreatDoorMatrixDeterminantF
import Derived.WalkKit
import Derived.ProofKit
import Derived.OpenShut
import Derived.ShutString
import Derived.ChangeOld
import Derived.Below
import Derived.Deep.DeepHandedRow
namespace Go.Proofs.YtajkakhfcokljaaGreatDoor.matrixDeterminant
open Go Go.ChangeShapes Go.WideShapes Go.ChangeAt Go.RowKit
open Go.ChangeMaps (open_string shut_string)
set_option linter.unusedVariables false

theorem own : ownKnob Tryz.prog.godebug = none := by kernel_rfl
theorem laidOut : laidOutB Tryz.prog = true := by kernel_rfl
set_option maxRecDepth 100000 in
theorem contract (H : Type) (enc : TypeId × Value → H) (W : World) (base : Nat) (args : Array Value) (ds gs : List (DataW H)) (before : List MemPlace)
    (hval : ∀ (j : Nat) t v, Tryz.f4.params[j]? = some t → args[j]? = some v → Value.okWide Tryz.prog W .any base t v)
    (hW : DataW.Whole enc Tryz.prog Tryz.f4.params.toList Rows.matrixDeterminantSpec.vars false W args.toList ds gs before) (hL : laidMetH Tryz.prog Rows.matrixDeterminantRow.laid W) :
    Calls Tryz.prog 4 args W fun e W' => ∃ v, e = .returned v ∧ Rows.matrixDeterminantSpec.post enc Tryz.prog Tryz.f4 false true false false W args v W' := by
  have gl : Go.Proofs.YtajkakhfcokljaaGreatDoor.Gl (Go.Proofs.YtajkakhfcokljaaGreatDoor.memOf W) := Go.Proofs.YtajkakhfcokljaaGreatDoor.tabs_gl hL
  have hW' := hW
  obtain ⟨p, q, hA0, hV, rfl, hfz, hnd⟩ := hW
  have hA : DataW.TrodAll enc Tryz.prog W 0 (fun _ => true) true Tryz.f4.params.toList args.toList ds p := hA0
  rw [Tryz.params4] at hA hval
  obtain ⟨v0, vs0, d0, ds0, p0, q0, hargs, rfl, rfl, h0, r0⟩ := trodAll_cons hA
  obtain ⟨v1, vs1, d1, ds1, p1, q1, rfl, rfl, rfl, h1, r1⟩ := trodAll_cons r0
  obtain ⟨v2, vs2, d2, ds2, p2, q2, rfl, rfl, rfl, h2, r2⟩ := trodAll_cons r1
  obtain ⟨rfl, rfl, rfl⟩ := trodAll_nil r2
  obtain rfl : args = #[v0, v1, v2] := by cases args; simp_all
  obtain ⟨rfl, rfl⟩ := trodVars_none hV
  have k0 := h0
  have lt0 : ∀ x ∈ p0, x.block < W.heap.size := by obtain ⟨m, hm⟩ := k0; exact DataW.trod_lt m _ _ _ hm
  obtain ⟨x0, y0, a0, n0, c0, l0, rfl, s0, _⟩ := Go.Proofs.YtajkakhfcokljaaGreatDoor.open_mat Tryz.underlying25 Tryz.underlying3 Tryz.underlying3 Tryz.underlying23 Tryz.underlying9 (by refine ⟨rfl, rfl, rfl, ?_, ?_, ?_, ?_, ?_⟩ <;> kernel_rfl) (hval 0 25 v0 rfl rfl) h0
  have k1 := h1
  have lt1 : ∀ x ∈ p1, x.block < W.heap.size := by obtain ⟨m, hm⟩ := k1; exact DataW.trod_lt m _ _ _ hm
  obtain ⟨x1, y1, a1, n1, c1, l1, rfl, s1, _⟩ := Go.Proofs.YtajkakhfcokljaaGreatDoor.open_mat Tryz.underlying25 Tryz.underlying3 Tryz.underlying3 Tryz.underlying23 Tryz.underlying9 (by refine ⟨rfl, rfl, rfl, ?_, ?_, ?_, ?_, ?_⟩ <;> kernel_rfl) (hval 1 25 v1 rfl rfl) h1
  obtain ⟨x2, rfl, rfl, rfl, hx2⟩ := open_int Tryz.underlying3 (hval 2 3 v2 rfl rfl) h2
  clear hA0
  refine (Go.Proofs.YtajkakhfcokljaaGreatDoor.frame_of (Go.Proofs.YtajkakhfcokljaaGreatDoor.law_matrixDeterminant gl s0 s1)).mono fun e W' ⟨he, bel⟩ => ?_
  subst he
  exact ⟨_, rfl, _, _, _, [], _, [], hW', trodAll_mk1 (shut_bool Tryz.underlying4 _), (trodAll_cons_mk (Below.trod laidOut (by kernel_rfl) (of_decide_eq_true (by kernel_rfl)) k0 bel lt0) (trodAll_cons_mk (Below.trod laidOut (by kernel_rfl) (of_decide_eq_true (by kernel_rfl)) k1 bel lt1) (trodAll_cons_mk (shut_int Tryz.underlying3 hx2) trodAll_mk0))), rfl, bel.frame _, fun h => by cases h⟩

theorem laid_met (os : Os) : laidMet Tryz.prog Rows.matrixDeterminantRow.laid (({ World.holding Tryz.prog os ⟨#[], #[], []⟩ with heap := Go.Proofs.YtajkakhfcokljaaGreatDoor.layTabs (World.holding Tryz.prog os ⟨#[], #[], []⟩).heap }).forCall (fun _ _ => 0) ⟨#[], #[.agg #[.int .i64 0, .int .i64 0, .slice none 0 0], .agg #[.int .i64 0, .int .i64 0, .slice none 0 0], .int .i64 0], []⟩).memory :=
  laidMet_of_run' 80 (by kernel_rfl) (by kernel_rfl)
theorem reads (os : Os) {H : Type} (enc : TypeId × Value → H) : ∃ places, DataW.whole enc Tryz.prog (({ World.holding Tryz.prog os ⟨#[], #[], []⟩ with heap := Go.Proofs.YtajkakhfcokljaaGreatDoor.layTabs (World.holding Tryz.prog os ⟨#[], #[], []⟩).heap }).forCall (fun _ _ => 0) ⟨#[], #[.agg #[.int .i64 0, .int .i64 0, .slice none 0 0], .agg #[.int .i64 0, .int .i64 0, .slice none 0 0], .int .i64 0], []⟩).memory Tryz.f4.params.toList Rows.matrixDeterminantSpec.vars false (#[Value.agg #[.int .i64 0, .int .i64 0, .slice none 0 0], Value.agg #[.int .i64 0, .int .i64 0, .slice none 0 0], Value.int .i64 0] : Array Value).toList 8 = some ([.agg [.lit (.int .i64 0), .lit (.int .i64 0), .nil], .agg [.lit (.int .i64 0), .lit (.int .i64 0), .nil], .lit (.int .i64 0)], [], places) :=
  ⟨[], by kernel_rfl⟩
set_option maxRecDepth 100000 in
theorem lifted (os : Os) (started : os.Started) (H : Type) (enc : TypeId × Value → H) (F : Stop.Interp) :
    ReturnsInHanded {} Tryz.checked os 4 .any ((OpenSpec.ofChange Rows.matrixDeterminantSpec).preRow enc Tryz.prog Tryz.f4 Rows.matrixDeterminantRow.domain false Rows.matrixDeterminantRow.laid) (((OpenSpec.ofChange Rows.matrixDeterminantSpec).at F).post enc Tryz.prog Tryz.f4 false true false false) := by
  obtain ⟨places, hx⟩ := reads os enc
  refine returnsInHanded_of_row (C := Tryz.checked) (s := (OpenSpec.ofChange Rows.matrixDeterminantSpec)) own started (by kernel_rfl) Tryz.func4
    (witness_row_at (enc := enc) (C := Tryz.checked) false ({ World.holding Tryz.prog os ⟨#[], #[], []⟩ with heap := Go.Proofs.YtajkakhfcokljaaGreatDoor.layTabs (World.holding Tryz.prog os ⟨#[], #[], []⟩).heap }) #[.agg #[.int .i64 0, .int .i64 0, .slice none 0 0], .agg #[.int .i64 0, .int .i64 0, .slice none 0 0], .int .i64 0] rfl (by kernel_rfl) (by kernel_rfl) (by kernel_rfl)
      (OpenSpec.preRow_of_cond 8 hx (by kernel_rfl) (fun k hk => by cases hk) (by kernel_rfl) (laid_met os))) ?_
  intro W base args ds gs before hval hW _ _ _ hL _ _
  exact contract H enc W base args ds gs before hval hW hL
theorem said : Rows.MatrixDeterminantSaid :=
  OpenClaim.holds_of_cond 4 Tryz.f4 rfl rfl rfl rfl rfl rfl rfl ⟨rfl, rfl, rfl, rfl, rfl⟩ rfl rfl rfl rfl rfl fact1 Tryz.func4 fact2 fact3 fact4
    (fun os started H enc _ F => by rw [OpenClaim.pre_eq_preRow]; exact lifted os started H enc F)
theorem plain (f : FuncId) (fn : Func) (hf : Tryz.pinned.checked.prog.funcNamed "sosopt/sosoptlaw03.MatrixDeterminant" = some f) (hfn : Tryz.pinned.checked.prog.funcs[f]? = some fn) :
    false = Tryz.pinned.checked.prog.looks [] ∧ ∀ (j : Nat) t, fn.params[j]? = some t → Tryz.pinned.checked.prog.wantsStandIn t = false := by
  obtain rfl : f = 4 := Option.some.inj ((show Tryz.prog.funcNamed "sosopt/sosoptlaw03.MatrixDeterminant" = some 4 by kernel_rfl).symm.trans hf) |>.symm
  obtain rfl : fn = Tryz.f4 := (Option.some.inj (Tryz.func4.symm.trans hfn)).symm
  refine ⟨by kernel_rfl, fun j t ht => ?_⟩
  rw [Tryz.params4] at ht
  have hm := Array.mem_of_getElem? ht
  have hc : t = 25 ∨ t = 25 ∨ t = 3 := by simpa using hm
  rcases hc with rfl | rfl | rfl
  · exact (show Tryz.prog.wantsStandIn 25 = false by kernel_rfl)
  · exact (show Tryz.prog.wantsStandIn 25 = false by kernel_rfl)
  · exact (show Tryz.prog.wantsStandIn 3 = false by kernel_rfl)
/-- THE CARD -/
theorem card : Rows.MatrixDeterminantCardSaid :=
  Claim7.holds_tied_plain_at .later [] _ _ _ _ said (fun _ h => by cases h) (by kernel_rfl) (fun _ h => by cases h) matrixDeterminant_row_tie rfl ⟨rfl, rfl⟩ (by kernel_rfl) rfl plain (by kernel_rfl)
#print axioms card
end Go.Proofs.YtajkakhfcokljaaGreatDoor.matrixDeterminant
