/-
  Texts of this proof, merged by a program of ours: VcJ.
-/
import Derived.Test.YtgnclfejnndicaaGreatDoorProg
import Derived.Test.YtgnclfejnndicaaGreatDoorG05
import Derived.Test.YtgnclfejnndicaaGreatDoorG06
import Derived.Test.YtgnclfejnndicaaGreatDoorG07
/-
  Written by wip/tools/vcgen.py: what is asked of each function's body; each equation is checked by the kernel.
-/
namespace Go.Proofs.YtgnclfejnndicaaGreatDoor
open Go
set_option maxRecDepth 100000
set_option linter.unusedVariables false
variable {h : Heap} {K : Value → Heap → Prop}
abbrev ty_a20 : Nat := 274
def VAppendSimpleL6 (P : Program) (Invv : List Value → Heap → Prop) (muv : List Value → Heap → Nat) (workA : OA) (workn workc : Nat) (chunksA : OA) (chunksn chunksc : Nat) (hp1 : Heap) : Prop :=
  ∃ (Invv1 : List Value → Heap → Prop) (muv1 : List Value → Heap → Nat), Invv1 [U 0, I (wi64 ((workn : Int) - 1))] hp1 ∧
  ∀ (rest : Int) (i : Int), ∀ hp2, Invv1 [U rest, I i] hp2 → Br (decide (i ≥ (0 : Int))) (∃ a, workA = some a ∧ 0 ≤ i ∧ i < (workn : Int) ∧ ∃ (t35 : Int), Heap.cell? hp2 (Addr.add a ((i).toNat * 1)) = some (U t35) ∧ FCall P f_BDiv64 #[U rest, U t35, U 10000000000000000000] hp2 (fun r1 hp3 => ∃ (t36a : Int) (t36b : Int), r1 = .tuple #[U t36a, U t36b] ∧ ∃ a1, workA = some a1 ∧ 0 ≤ i ∧ i < (workn : Int) ∧ wpH P (Instr.storeAt 98 (.pointer (some (Addr.add a1 ((i).toNat * 1)))) (U t36a)) (fun _ hp4 => Invv1 [U t36b, I (wi64 (i - 1))] hp4 ∧ muv1 [U t36b, I (wi64 (i - 1))] hp4 < muv1 [U rest, I i] hp2) hp3))
  (FCall P f_WTrim #[.slice workA workn workc] hp2 (fun r2 hp5 => ∃ (t41A : OA) (t41n t41c : Nat), r2 = .slice t41A t41n t41c ∧ wpH P (Instr.buildSlice 132 1 #[(0, U rest)]) (fun v hp6 => ∃ (t44A : OA) (t44n t44c : Nat), v = .slice t44A t44n t44c ∧ wpH P (Builtin.append_ #[132, 132] 132 #[.slice chunksA chunksn chunksc, .slice t44A t44n t44c]) (fun v1 hp7 => ∃ (t45A : OA) (t45n t45c : Nat), v1 = .slice t45A t45n t45c ∧ Invv [.slice t41A t41n t41c, .slice t45A t45n t45c] hp7 ∧ muv [.slice t41A t41n t41c, .slice t45A t45n t45c] hp7 < muv [.slice workA workn workc, .slice chunksA chunksn chunksc] hp1) hp6) hp5))
def VAppendSimpleL21 (P : Program) (Invv2 : List Value → Heap → Prop) (muv2 : List Value → Heap → Nat) (text1A : OA) (text1n text1c : Nat) (first : Bool) (i1 : Int) (t58A : OA) (t58n t58c : Nat) (size : Int) (hp9 : Heap) (hp11 : Heap) : Prop :=
  ∃ (Invv3 : List Value → Heap → Prop) (muv3 : List Value → Heap → Nat), Invv3 [.slice text1A text1n text1c, I 0] hp11 ∧
  ∀ (text2A : OA) (text2n text2c : Nat) (t71 : Int), ∀ hp12, Invv3 [.slice text2A text2n text2c, I t71] hp12 → Br (decide (t71 < (wi64 (size - (t58n : Int))))) (wpH P (Instr.buildSlice 148 1 #[(0, Y (48 : Int))]) (fun v3 hp13 => ∃ (t74A : OA) (t74n t74c : Nat), v3 = .slice t74A t74n t74c ∧ wpH P (Builtin.append_ #[148, 148] 148 #[.slice text2A text2n text2c, .slice t74A t74n t74c]) (fun v4 hp14 => ∃ (t75A : OA) (t75n t75c : Nat), v4 = .slice t75A t75n t75c ∧ Invv3 [.slice t75A t75n t75c, I (wi64 (t71 + 1))] hp14 ∧ muv3 [.slice t75A t75n t75c, I (wi64 (t71 + 1))] hp14 < muv3 [.slice text2A text2n text2c, I t71] hp12) hp13) hp12)
  (∃ (Jv1 : List Value → Heap → Prop), (wpH P (Builtin.append_ #[148, 148] 148 #[.slice text2A text2n text2c, .slice t58A t58n t58c]) (fun v5 hp15 => ∃ (t79A : OA) (t79n t79c : Nat), v5 = .slice t79A t79n t79c ∧ Jv1 [.slice t79A t79n t79c] hp15) hp12) ∧
  ∀ (text3A : OA) (text3n text3c : Nat), ∀ hp16, Jv1 [.slice text3A text3n text3c] hp16 → Invv2 [.slice text3A text3n text3c, .bool false, I (wi64 (i1 - 1))] hp16 ∧ muv2 [.slice text3A text3n text3c, .bool false, I (wi64 (i1 - 1))] hp16 < muv2 [.slice text1A text1n text1c, .bool first, I i1] hp9)
def VAppendSimpleL28 (P : Program) (width : Int) (K : Value → Heap → Prop) (text1A : OA) (text1n text1c : Nat) (hp9 : Heap) : Prop :=
  ∃ (Invv4 : List Value → Heap → Prop) (muv4 : List Value → Heap → Nat), Invv4 [.slice text1A text1n text1c, I 0] hp9 ∧
  ∀ (text4A : OA) (text4n text4c : Nat) (t82 : Int), ∀ hp17, Invv4 [.slice text4A text4n text4c, I t82] hp17 → Br (decide (t82 < width)) (wpH P (Instr.buildSlice 148 1 #[(0, Y (48 : Int))]) (fun v6 hp18 => ∃ (t85A : OA) (t85n t85c : Nat), v6 = .slice t85A t85n t85c ∧ wpH P (Builtin.append_ #[148, 148] 148 #[.slice text4A text4n text4c, .slice t85A t85n t85c]) (fun v7 hp19 => ∃ (t86A : OA) (t86n t86c : Nat), v7 = .slice t86A t86n t86c ∧ Invv4 [.slice t86A t86n t86c, I (wi64 (t82 + 1))] hp19 ∧ muv4 [.slice t86A t86n t86c, I (wi64 (t82 + 1))] hp19 < muv4 [.slice text4A text4n text4c, I t82] hp17) hp18) hp17)
  (K (.slice text4A text4n text4c) hp17)
def VAppendSimpleL14 (P : Program) (textA : OA) (textn textc : Nat) (width : Int) (K : Value → Heap → Prop) (chunksA : OA) (chunksn : Nat) (p : Addr) (hp8 : Heap) : Prop :=
  ∃ (Invv2 : List Value → Heap → Prop) (muv2 : List Value → Heap → Nat), Invv2 [.slice textA textn textc, .bool true, I (wi64 ((chunksn : Int) - 1))] hp8 ∧
  ∀ (text1A : OA) (text1n text1c : Nat) (first : Bool) (i1 : Int), ∀ hp9, Invv2 [.slice text1A text1n text1c, .bool first, I i1] hp9 → Br (decide (i1 ≥ (0 : Int))) ((0 ≤ (0 : Int) ∧ (0 : Int) ≤ (20 : Int)) ∧ ∃ a2, chunksA = some a2 ∧ 0 ≤ i1 ∧ i1 < (chunksn : Int) ∧ ∃ (t57 : Int), Heap.cell? hp9 (Addr.add a2 ((i1).toNat * 1)) = some (U t57) ∧ FCall P f_CAppendUint #[.slice (cutA (some p) 20 0 1) ((((0 : Int)).toNat) - 0) (20 - 0), U t57, I 10] hp9 (fun r3 hp10 => ∃ (t58A : OA) (t58n t58c : Nat), r3 = .slice t58A t58n t58c ∧ ∃ (Jv : List Value → Heap → Prop), (Br first (Jv [I (if (wi64 (width - (wi64 ((19 : Int) * i1)))) > (t58n : Int) then wi64 (width - (wi64 ((19 : Int) * i1))) else (t58n : Int))] hp10)
  (Jv [I 19] hp10)) ∧
  ∀ (size : Int), ∀ hp11, Jv [I size] hp11 → VAppendSimpleL21 P Invv2 muv2 text1A text1n text1c first i1 t58A t58n t58c size hp9 hp11))
  (Br first (VAppendSimpleL28 P width K text1A text1n text1c hp9)
  (K (.slice text1A text1n text1c) hp9))
def VAppendSimpleL3 (P : Program) (textA : OA) (textn textc : Nat) (width : Int) (K : Value → Heap → Prop) (t17A : OA) (t17n t17c : Nat) (hp : Heap) : Prop :=
  ∃ (Invv : List Value → Heap → Prop) (muv : List Value → Heap → Nat), Invv [.slice t17A t17n t17c, .slice none 0 0] hp ∧
  ∀ (workA : OA) (workn workc : Nat) (chunksA : OA) (chunksn chunksc : Nat), ∀ hp1, Invv [.slice workA workn workc, .slice chunksA chunksn chunksc] hp1 → Br (decide ((workn : Int) > (0 : Int))) (VAppendSimpleL6 P Invv muv workA workn workc chunksA chunksn chunksc hp1)
  (wpH P (Instr.alloc 274 true (.tuple #[])) (fun v2 hp8 => ∃ (p : Addr), v2 = .pointer (some p) ∧ VAppendSimpleL14 P textA textn textc width K chunksA chunksn p hp8) hp1)
def VAppendSimple (P : Program) (textA : OA) (textn textc : Nat) (xA : OA) (xn xc : Nat) (width : Int) (h : Heap) (K : Value → Heap → Prop) : Prop :=
  FCall P f_WClone #[.slice xA xn xc] h (fun r hp => ∃ (t17A : OA) (t17n t17c : Nat), r = .slice t17A t17n t17c ∧ VAppendSimpleL3 P textA textn textc width K t17A t17n t17c hp)
theorem VAppendSimple_ok (textA : OA) (textn textc : Nat) (xA : OA) (xn xc : Nat) (width : Int) (hvc : VAppendSimple Tryz.prog textA textn textc xA xn xc width h K) : FCall Tryz.prog f_WAppendSimple #[.slice textA textn textc, .slice xA xn xc, I width] h K :=
  fn_sound Tryz.func267 (c := codeOf Tryz.f267) (by kernel_rfl) (rs := [.tmp 6]) (by kernel_rfl) (fa := { loops := [(3, { slots := [7, 8], owns := [], zs := [.slice none 0 0, .slice none 0 0], lim := { slots := [7, 8, 9, 10, 18, 19, 20, 21, 22, 23, 24, 25, 26, 27, 28, 29, 30, 31, 32, 33, 34, 35, 36, 37, 38, 39, 40, 41, 42, 43, 44, 45], keys := [] } }), (6, { slots := [9, 10], owns := [], zs := [.int .u64 0, .int .i64 0], lim := { slots := [9, 10, 24, 25, 26, 27, 28, 29, 30, 31, 32, 33, 34, 35, 36, 37, 38, 39], keys := [] } }), (14, { slots := [0, 12, 13], owns := [], zs := [.slice none 0 0, .bool false, .int .i64 0], lim := { slots := [0, 12, 13, 14, 15, 49, 50, 51, 52, 53, 54, 55, 56, 57, 58, 59, 60, 61, 62, 63, 64, 65, 66, 67, 68, 69, 70, 71, 72, 73, 74, 75, 76, 77, 78, 79], keys := [] } }), (21, { slots := [0, 71], owns := [], zs := [.slice none 0 0, .int .i64 0], lim := { slots := [0, 71, 72, 73, 74, 75, 76], keys := [] } }), (28, { slots := [0, 82], owns := [], zs := [.slice none 0 0, .int .i64 0], lim := { slots := [0, 82, 83, 84, 85, 86, 87], keys := [] } })], cuts := [(20, { slots := [15], owns := [], zs := [.int .i64 0], lim := { slots := [15, 59, 60, 61, 62, 63, 64, 65, 66], keys := [] } }), (25, { slots := [0], owns := [], zs := [.slice none 0 0], lim := { slots := [0, 77, 78, 79], keys := [] } })], orders := [(16, ([0, 1, 2, 3, 4, 5, 6], [[], [], [], [1, 2], [1, 2, 3], [0, 1, 2, 3, 4], [0, 1, 2, 3, 4, 5]]))] })
    (cfg := { n := 89, own := [], lim := none, fns := [191, 195, 233, 241], wr := [241] }) (args := [.slice textA textn textc, .slice xA xn xc, I width]) (by kernel_rfl) (Bodies.cons Tryz.call191 (Bodies.cons Tryz.call195 (Bodies.cons Tryz.call233 (Bodies.cons Tryz.call241 Bodies.nil)))) (Eq.mp (by kernel_rfl : VAppendSimple Tryz.prog textA textn textc xA xn xc width h K = _) hvc)
end Go.Proofs.YtgnclfejnndicaaGreatDoor
