/-
  Texts of this proof, merged by a program of ours: VcN.
-/
import Derived.Test.YtgnclfejnndicaaGreatDoorProg
import Derived.Test.YtgnclfejnndicaaGreatDoorG05
import Derived.Test.YtgnclfejnndicaaGreatDoorG12
import Derived.Test.YtgnclfejnndicaaGreatDoorG08
/-
  Written by wip/tools/vcgen.py: what is asked of each function's body; each equation is checked by the kernel.
-/
namespace Go.Proofs.YtgnclfejnndicaaGreatDoor
open Go
set_option maxRecDepth 100000
set_option linter.unusedVariables false
variable {h : Heap} {K : Value → Heap → Prop}
abbrev f_EIsInteger : Nat := 84
abbrev f_EInverse : Nat := 91
abbrev f_EQuotients : Nat := 74
abbrev f_EConvergents : Nat := 31
abbrev f_EBest : Nat := 43
abbrev f_ENearer : Nat := 85
abbrev f_EPower2 : Nat := 77
abbrev f_EDyadic : Nat := 39
abbrev f_EQuotients1 : Nat := 34
abbrev f_ESimplest : Nat := 60
abbrev f_ESimplest1 : Nat := 14
abbrev f_EAfter : Nat := 75
abbrev f_ENumber : Nat := 76
abbrev f_FOne : Nat := 65
abbrev f_FQuotients : Nat := 35
abbrev f_FConvergents : Nat := 38
abbrev f_FSimplest : Nat := 18
abbrev f_FBest : Nat := 44
abbrev f_FDistance : Nat := 86
abbrev f_FDyadic : Nat := 40
abbrev f_LKnown : Nat := 13
abbrev f_LDistance : Nat := 33
abbrev f_LNearestSimplest : Nat := 3
abbrev f_LNearestLeast : Nat := 4
abbrev f_LNearestConverges : Nat := 5
abbrev f_LNearestQuotients : Nat := 6
abbrev f_PNew : Nat := 19
abbrev f_PNext : Nat := 22
abbrev f_GSameStrings : Nat := 36
abbrev f_LNearestBest : Nat := 8
abbrev f_LNearestOwn : Nat := 9
abbrev f_LNearestDyadic : Nat := 7
abbrev ty_tInts : Nat := 37
abbrev ty_tInts_e : Nat := 3
theorem tInts_one : Tryz.prog.cellsOf ty_tInts_e = 1 ∧ (Tryz.prog.info? ty_tInts_e).isSome = true := ⟨by kernel_rfl, by kernel_rfl⟩
def EInverse (P : Program) (q : ByteArray) (h : Heap) (K : Value → Heap → Prop) : Prop :=
  FCall P f_TDiv #[.string ({ data := #[49] } : ByteArray), .string q] h (fun r hp => ∃ (t7a : ByteArray) (t7b : Bool), r = .tuple #[.string t7a, .bool t7b] ∧ K (.string t7a) hp)
theorem EInverse_ok (q : ByteArray) (hvc : EInverse Tryz.prog q h K) : FCall Tryz.prog f_EInverse #[.string q] h K :=
  fn_sound Tryz.func91 (c := codeOf Tryz.f91) (by kernel_rfl) (rs := [.tmp 2]) (by kernel_rfl) (fa := { loops := [], cuts := [], orders := [] })
    (cfg := { n := 11, own := [], lim := none, fns := [82], wr := [] }) (args := [.string q]) (by kernel_rfl) (Bodies.cons Tryz.call82 Bodies.nil) (Eq.mp (by kernel_rfl : EInverse Tryz.prog q h K = _) hvc)
def ESimplest (P : Program) (lo hi : ByteArray) (h : Heap) (K : Value → Heap → Prop) : Prop :=
  FCall P f_TSign #[.string hi] h (fun r hp => ∃ (t9 : Int), r = I t9 ∧ Br (decide (t9 < (0 : Int))) (FCall P f_TNeg #[.string hi] hp (fun r1 hp1 => ∃ (t12 : ByteArray), r1 = .string t12 ∧ FCall P f_TNeg #[.string lo] hp1 (fun r2 hp2 => ∃ (t14 : ByteArray), r2 = .string t14 ∧ FCall P f_ESimplest #[.string t12, .string t14] hp2 (fun r3 hp3 => ∃ (t15 : ByteArray), r3 = .string t15 ∧ FCall P f_TNeg #[.string t15] hp3 (fun r4 hp4 => ∃ (t16 : ByteArray), r4 = .string t16 ∧ K (.string t16) hp4)))))
  (FCall P f_TSign #[.string lo] hp (fun r5 hp5 => ∃ (t19 : Int), r5 = I t19 ∧ Br (decide (t19 ≤ (0 : Int))) (K (.string ({ data := #[48] } : ByteArray)) hp5)
  (FCall P f_TCeil #[.string lo] hp5 (fun r6 hp6 => ∃ (t22 : ByteArray), r6 = .string t22 ∧ FCall P f_TCompare #[.string t22, .string hi] hp6 (fun r7 hp7 => ∃ (t25 : Int), r7 = I t25 ∧ Br (decide (t25 ≤ (0 : Int))) (K (.string t22) hp7)
  (FCall P f_TFloor #[.string lo] hp7 (fun r8 hp8 => ∃ (t28 : ByteArray), r8 = .string t28 ∧ FCall P f_TSub #[.string hi, .string t28] hp8 (fun r9 hp9 => ∃ (t31 : ByteArray), r9 = .string t31 ∧ FCall P f_EInverse #[.string t31] hp9 (fun r10 hp10 => ∃ (t32 : ByteArray), r10 = .string t32 ∧ FCall P f_TSub #[.string lo, .string t28] hp10 (fun r11 hp11 => ∃ (t35 : ByteArray), r11 = .string t35 ∧ FCall P f_EInverse #[.string t35] hp11 (fun r12 hp12 => ∃ (t36 : ByteArray), r12 = .string t36 ∧ FCall P f_ESimplest #[.string t32, .string t36] hp12 (fun r13 hp13 => ∃ (t37 : ByteArray), r13 = .string t37 ∧ FCall P f_EInverse #[.string t37] hp13 (fun r14 hp14 => ∃ (t40 : ByteArray), r14 = .string t40 ∧ FCall P f_TAdd #[.string t28, .string t40] hp14 (fun r15 hp15 => ∃ (t41 : ByteArray), r15 = .string t41 ∧ K (.string t41) hp15)))))))))))))))
theorem ESimplest_ok (lo hi : ByteArray) (hvc : ESimplest Tryz.prog lo hi h K) : FCall Tryz.prog f_ESimplest #[.string lo, .string hi] h K :=
  fn_sound Tryz.func60 (c := codeOf Tryz.f60) (by kernel_rfl) (rs := [.tmp 4]) (by kernel_rfl) (fa := { loops := [], cuts := [], orders := [] })
    (cfg := { n := 42, own := [], lim := none, fns := [59, 60, 78, 80, 81, 91, 109, 110, 111], wr := [] }) (args := [.string lo, .string hi]) (by kernel_rfl) (Bodies.cons Tryz.call59 (Bodies.cons Tryz.call60 (Bodies.cons Tryz.call78 (Bodies.cons Tryz.call80 (Bodies.cons Tryz.call81 (Bodies.cons Tryz.call91 (Bodies.cons Tryz.call109 (Bodies.cons Tryz.call110 (Bodies.cons Tryz.call111 Bodies.nil))))))))) (Eq.mp (by kernel_rfl : ESimplest Tryz.prog lo hi h K = _) hvc)
def ESimplest1 (P : Program) (lo hi : ByteArray) (h : Heap) (K : Value → Heap → Prop) : Prop :=
  ∃ (Jv : List Value → Heap → Prop), (FCall P f_TValid #[.string lo] h (fun r hp => ∃ (t7 : Bool), r = .bool t7 ∧ Br (!t7) (Jv [.bool true] hp)
  (FCall P f_TValid #[.string hi] hp (fun r1 hp1 => ∃ (t11 : Bool), r1 = .bool t11 ∧ Jv [.bool (!t11)] hp1)))) ∧
  ∀ (t13 : Bool), ∀ hp2, Jv [.bool t13] hp2 → Br t13 (K (.tuple #[.string ({ data := #[] } : ByteArray), I (1 : Int)]) hp2)
  (FCall P f_TCompare #[.string hi, .string lo] hp2 (fun r2 hp3 => ∃ (t16 : Int), r2 = I t16 ∧ Br (decide (t16 < (0 : Int))) (K (.tuple #[.string ({ data := #[] } : ByteArray), I (3 : Int)]) hp3)
  (FCall P f_ESimplest #[.string lo, .string hi] hp3 (fun r3 hp4 => ∃ (t20 : ByteArray), r3 = .string t20 ∧ K (.tuple #[.string t20, I (0 : Int)]) hp4))))
theorem ESimplest1_ok (lo hi : ByteArray) (hvc : ESimplest1 Tryz.prog lo hi h K) : FCall Tryz.prog f_ESimplest1 #[.string lo, .string hi] h K :=
  fn_sound Tryz.func14 (c := codeOf Tryz.f14) (by kernel_rfl) (rs := [.tmp 4, .tmp 5]) (by kernel_rfl) (fa := { loops := [], cuts := [(2, { slots := [13], owns := [], zs := [.bool false], lim := { slots := [6, 7, 8, 9, 10, 11, 12, 13], keys := [] } })], orders := [] })
    (cfg := { n := 21, own := [], lim := none, fns := [58, 59, 60], wr := [] }) (args := [.string lo, .string hi]) (by kernel_rfl) (Bodies.cons Tryz.call58 (Bodies.cons Tryz.call59 (Bodies.cons Tryz.call60 Bodies.nil))) (Eq.mp (by kernel_rfl : ESimplest1 Tryz.prog lo hi h K = _) hvc)
def LKnown (P : Program)  (h : Heap) (K : Value → Heap → Prop) : Prop :=
  FCall P f_ESimplest1 #[.string ({ data := #[51, 47, 49, 48] } : ByteArray), .string ({ data := #[50, 47, 53] } : ByteArray)] h (fun r hp => ∃ (t4a : ByteArray) (t4b : Int), r = .tuple #[.string t4a, I t4b] ∧ Br (t4b == (0 : Int)) (K (.bool (ByteArray.toList t4a == ByteArray.toList ({ data := #[49, 47, 51] } : ByteArray))) hp)
  (K (.bool false) hp))
theorem LKnown_ok  (hvc : LKnown Tryz.prog  h K) : FCall Tryz.prog f_LKnown #[] h K :=
  fn_sound Tryz.func13 (c := codeOf Tryz.f13) (by kernel_rfl) (rs := [.tmp 0]) (by kernel_rfl) (fa := { loops := [], cuts := [], orders := [] })
    (cfg := { n := 13, own := [], lim := none, fns := [14], wr := [] }) (args := []) (by kernel_rfl) (Bodies.cons Tryz.call14 Bodies.nil) (Eq.mp (by kernel_rfl : LKnown Tryz.prog  h K = _) hvc)
def LNearestLeast (P : Program) (lA : OA) (ln lc : Nat) (h : Heap) (K : Value → Heap → Prop) : Prop :=
  FCall P f_PNew #[.slice lA ln lc] h (fun r hp => ∃ (t13 : OA), r = .pointer t13 ∧ FCall P f_PNext #[.pointer t13, I (4001 : Int)] hp (fun r1 hp1 => ∃ (t15 : Int), r1 = I t15 ∧ FCall P f_NFromInt #[I (wi64 (t15 - (2000 : Int)))] hp1 (fun r2 hp2 => ∃ (t170 : Bool) (t171A : OA) (t171n t171c : Nat), r2 = .agg #[.bool t170, .slice t171A t171n t171c] ∧ FCall P f_PNext #[.pointer t13, I (300 : Int)] hp2 (fun r3 hp3 => ∃ (t19 : Int), r3 = I t19 ∧ FCall P f_NFromInt #[I (wi64 ((1 : Int) + t19))] hp3 (fun r4 hp4 => ∃ (t210 : Bool) (t211A : OA) (t211n t211c : Nat), r4 = .agg #[.bool t210, .slice t211A t211n t211c] ∧ FCall P f_NFrac #[.agg #[.bool t170, .slice t171A t171n t171c], .agg #[.bool t210, .slice t211A t211n t211c]] hp4 (fun r5 hp5 => ∃ (t220 : Bool) (t221A : OA) (t221n t221c : Nat) (t222 : Bool) (t223A : OA) (t223n t223c : Nat), r5 = .agg #[.bool t220, .slice t221A t221n t221c, .bool t222, .slice t223A t223n t223c] ∧ FCall P f_PNext #[.pointer t13, I (20 : Int)] hp5 (fun r6 hp6 => ∃ (t25 : Int), r6 = I t25 ∧ FCall P f_NFromInt #[I t25] hp6 (fun r7 hp7 => ∃ (t260 : Bool) (t261A : OA) (t261n t261c : Nat), r7 = .agg #[.bool t260, .slice t261A t261n t261c] ∧ Heap.le hp6 hp7 ∧ FCall P f_PNext #[.pointer t13, I (300 : Int)] hp7 (fun r8 hp8 => ∃ (t28 : Int), r8 = I t28 ∧ FCall P f_NFromInt #[I (wi64 ((1 : Int) + t28))] hp8 (fun r9 hp9 => ∃ (t300 : Bool) (t301A : OA) (t301n t301c : Nat), r9 = .agg #[.bool t300, .slice t301A t301n t301c] ∧ Heap.le hp8 hp9 ∧ FCall P f_NFrac #[.agg #[.bool t260, .slice t261A t261n t261c], .agg #[.bool t300, .slice t301A t301n t301c]] hp9 (fun r10 hp10 => ∃ (t310 : Bool) (t311A : OA) (t311n t311c : Nat) (t312 : Bool) (t313A : OA) (t313n t313c : Nat), r10 = .agg #[.bool t310, .slice t311A t311n t311c, .bool t312, .slice t313A t313n t313c] ∧ Heap.le hp9 hp10 ∧ FCall P f_NRAdd #[.agg #[.bool t220, .slice t221A t221n t221c, .bool t222, .slice t223A t223n t223c], .agg #[.bool t310, .slice t311A t311n t311c, .bool t312, .slice t313A t313n t313c]] hp10 (fun r11 hp11 => ∃ (t320 : Bool) (t321A : OA) (t321n t321c : Nat) (t322 : Bool) (t323A : OA) (t323n t323c : Nat), r11 = .agg #[.bool t320, .slice t321A t321n t321c, .bool t322, .slice t323A t323n t323c] ∧ Heap.le hp10 hp11 ∧ FCall P f_NText #[.agg #[.bool t220, .slice t221A t221n t221c, .bool t222, .slice t223A t223n t223c]] hp11 (fun r12 hp12 => ∃ (t35 : ByteArray), r12 = .string t35 ∧ Heap.le hp11 hp12 ∧ FCall P f_NText #[.agg #[.bool t320, .slice t321A t321n t321c, .bool t322, .slice t323A t323n t323c]] hp12 (fun r13 hp13 => ∃ (t37 : ByteArray), r13 = .string t37 ∧ Heap.le hp12 hp13 ∧ FCall P f_ESimplest1 #[.string t35, .string t37] hp13 (fun r14 hp14 => ∃ (t38a : ByteArray) (t38b : Int), r14 = .tuple #[.string t38a, I t38b] ∧ Heap.le hp13 hp14 ∧ FCall P f_NRead #[.string t38a] hp14 (fun r15 hp15 => ∃ (t43a0 : Bool) (t43a1A : OA) (t43a1n t43a1c : Nat) (t43a2 : Bool) (t43a3A : OA) (t43a3n t43a3c : Nat) (t43b : Bool), r15 = .tuple #[.agg #[.bool t43a0, .slice t43a1A t43a1n t43a1c, .bool t43a2, .slice t43a3A t43a3n t43a3c], .bool t43b] ∧ ∃ (Jv : List Value → Heap → Prop), (Br (t38b != (0 : Int)) (Jv [.bool true] hp15)
  (Br (!t43b) (Jv [.bool true] hp15)
  (FCall P f_NRCmp #[.agg #[.bool t43a0, .slice t43a1A t43a1n t43a1c, .bool t43a2, .slice t43a3A t43a3n t43a3c], .agg #[.bool t220, .slice t221A t221n t221c, .bool t222, .slice t223A t223n t223c]] hp15 (fun r16 hp16 => ∃ (t55 : Int), r16 = I t55 ∧ Br (decide (t55 < (0 : Int))) (Jv [.bool true] hp16)
  (FCall P f_NRCmp #[.agg #[.bool t43a0, .slice t43a1A t43a1n t43a1c, .bool t43a2, .slice t43a3A t43a3n t43a3c], .agg #[.bool t320, .slice t321A t321n t321c, .bool t322, .slice t323A t323n t323c]] hp16 (fun r17 hp17 => ∃ (t61 : Int), r17 = I t61 ∧ Jv [.bool (decide (t61 > (0 : Int)))] hp17)))))) ∧
  ∀ (t63 : Bool), ∀ hp18, Jv [.bool t63] hp18 → Br t63 (K (.bool false) hp18)
  (∃ (Invv : List Value → Heap → Prop) (muv : List Value → Heap → Nat), Invv [I (1 : Int)] hp18 ∧
  ∀ (d : Int), ∀ hp19, Invv [I d] hp19 → Br (decide (d < (400 : Int))) (FCall P f_NFromInt #[I d] hp19 (fun r18 hp20 => ∃ (t680 : Bool) (t681A : OA) (t681n t681c : Nat), r18 = .agg #[.bool t680, .slice t681A t681n t681c] ∧ Heap.le hp19 hp20 ∧ FCall P f_NDen #[.agg #[.bool t43a0, .slice t43a1A t43a1n t43a1c, .bool t43a2, .slice t43a3A t43a3n t43a3c]] hp20 (fun r19 hp21 => ∃ (t700 : Bool) (t701A : OA) (t701n t701c : Nat), r19 = .agg #[.bool t700, .slice t701A t701n t701c] ∧ Heap.le hp20 hp21 ∧ FCall P f_NCmp #[.agg #[.bool t680, .slice t681A t681n t681c], .agg #[.bool t700, .slice t701A t701n t701c]] hp21 (fun r20 hp22 => ∃ (t71 : Int), r20 = I t71 ∧ Heap.le hp21 hp22 ∧ Br (decide (t71 < (0 : Int))) (FCall P f_NR #[I d] hp22 (fun r21 hp23 => ∃ (t780 : Bool) (t781A : OA) (t781n t781c : Nat) (t782 : Bool) (t783A : OA) (t783n t783c : Nat), r21 = .agg #[.bool t780, .slice t781A t781n t781c, .bool t782, .slice t783A t783n t783c] ∧ Heap.le hp22 hp23 ∧ FCall P f_NRMul #[.agg #[.bool t220, .slice t221A t221n t221c, .bool t222, .slice t223A t223n t223c], .agg #[.bool t780, .slice t781A t781n t781c, .bool t782, .slice t783A t783n t783c]] hp23 (fun r22 hp24 => ∃ (t790 : Bool) (t791A : OA) (t791n t791c : Nat) (t792 : Bool) (t793A : OA) (t793n t793c : Nat), r22 = .agg #[.bool t790, .slice t791A t791n t791c, .bool t792, .slice t793A t793n t793c] ∧ Heap.le hp23 hp24 ∧ FCall P f_NRNeg #[.agg #[.bool t790, .slice t791A t791n t791c, .bool t792, .slice t793A t793n t793c]] hp24 (fun r23 hp25 => ∃ (t800 : Bool) (t801A : OA) (t801n t801c : Nat) (t802 : Bool) (t803A : OA) (t803n t803c : Nat), r23 = .agg #[.bool t800, .slice t801A t801n t801c, .bool t802, .slice t803A t803n t803c] ∧ Heap.le hp24 hp25 ∧ FCall P f_NFloor #[.agg #[.bool t800, .slice t801A t801n t801c, .bool t802, .slice t803A t803n t803c]] hp25 (fun r24 hp26 => ∃ (t810 : Bool) (t811A : OA) (t811n t811c : Nat), r24 = .agg #[.bool t810, .slice t811A t811n t811c] ∧ Heap.le hp25 hp26 ∧ FCall P f_NNeg #[.agg #[.bool t810, .slice t811A t811n t811c]] hp26 (fun r25 hp27 => ∃ (t820 : Bool) (t821A : OA) (t821n t821c : Nat), r25 = .agg #[.bool t820, .slice t821A t821n t821c] ∧ Heap.le hp26 hp27 ∧ FCall P f_NFromInt #[I d] hp27 (fun r26 hp28 => ∃ (t850 : Bool) (t851A : OA) (t851n t851c : Nat), r26 = .agg #[.bool t850, .slice t851A t851n t851c] ∧ Heap.le hp27 hp28 ∧ FCall P f_NFrac #[.agg #[.bool t820, .slice t821A t821n t821c], .agg #[.bool t850, .slice t851A t851n t851c]] hp28 (fun r27 hp29 => ∃ (t860 : Bool) (t861A : OA) (t861n t861c : Nat) (t862 : Bool) (t863A : OA) (t863n t863c : Nat), r27 = .agg #[.bool t860, .slice t861A t861n t861c, .bool t862, .slice t863A t863n t863c] ∧ Heap.le hp28 hp29 ∧ FCall P f_NRCmp #[.agg #[.bool t860, .slice t861A t861n t861c, .bool t862, .slice t863A t863n t863c], .agg #[.bool t320, .slice t321A t321n t321c, .bool t322, .slice t323A t323n t323c]] hp29 (fun r28 hp30 => ∃ (t88 : Int), r28 = I t88 ∧ Heap.le hp29 hp30 ∧ Br (decide (t88 ≤ (0 : Int))) (K (.bool false) hp30)
  (Invv [I (wi64 (d + (1 : Int)))] hp30 ∧ muv [I (wi64 (d + (1 : Int)))] hp30 < muv [I d] hp19))))))))))
  (FCall P f_LKnown #[] hp22 (fun r29 hp31 => ∃ (t90 : Bool), r29 = .bool t90 ∧ K (.bool t90) hp31))))))
  (FCall P f_LKnown #[] hp19 (fun r30 hp32 => ∃ (t901 : Bool), r30 = .bool t901 ∧ K (.bool t901) hp32)))))))))))))))))))
theorem LNearestLeast_ok (lA : OA) (ln lc : Nat) (hvc : LNearestLeast Tryz.prog lA ln lc h K) : FCall Tryz.prog f_LNearestLeast #[.slice lA ln lc] h K :=
  fn_sound Tryz.func4 (c := codeOf Tryz.f4) (by kernel_rfl) (rs := [.tmp 2]) (by kernel_rfl) (fa := { loops := [(9, { slots := [10], owns := [], zs := [.int .i64 0], lim := { slots := [2, 10, 11, 64, 65, 66, 67, 68, 69, 70, 71, 72, 73, 74, 75, 76, 77, 78, 79, 80, 81, 82, 83, 84, 85, 86, 87, 88, 89], keys := [11] } })], cuts := [(7, { slots := [63], owns := [], zs := [.bool false], lim := { slots := [46, 47, 48, 49, 50, 51, 52, 53, 54, 55, 56, 57, 58, 59, 60, 61, 62, 63], keys := [] } })], orders := [(3, ([0, 1, 4, 10, 2, 3, 5, 6, 7, 8, 9, 11], [[], [], [1], [1, 2], [], [1, 2, 3, 4], [1, 2, 3, 4, 5], [1, 2, 3, 4, 5, 6], [1, 2, 3, 4, 5, 6, 7], [0, 1, 2, 3, 4, 5, 6, 7, 8], [], [0, 1, 2, 3, 4, 5, 6, 7, 8, 9, 10]])), (4, ([0, 2, 1, 3, 4, 5, 6, 7, 8, 9], [[], [0], [], [0, 1, 2], [0, 1, 2, 3], [0, 1, 2, 3, 4], [0, 1, 2, 3, 4, 5], [0, 1, 2, 3, 4, 5], [0, 1, 2, 3, 4, 5, 6], [0, 1, 2, 3, 4, 5, 6, 7, 8]])), (9, ([0, 1, 2, 3, 5, 4, 6, 7, 8, 9], [[], [0], [0, 1], [0, 1, 2], [0, 1, 2, 3], [0, 1, 2], [0, 1, 2, 3, 4, 5], [0, 1, 2, 3, 4, 5, 6], [0, 1, 2, 3, 4, 5, 6, 7], [0, 1, 2, 3, 4, 5, 6, 7, 8]])), (11, ([0, 1, 7, 2, 3, 4, 5, 6, 8], [[], [], [1], [0, 1, 2], [0, 1, 2, 3], [0, 1, 2, 3, 4], [0, 1, 2, 3, 4, 5], [], [0, 1, 2, 3, 4, 5, 6, 7]])), (12, ([0, 1, 4, 2, 3, 5, 6], [[], [], [1], [0, 1, 2], [], [0, 1, 2, 3, 4], [0, 1, 2, 3, 4, 5]]))] })
    (cfg := { n := 91, own := [4, 5, 8, 11], lim := none, fns := [13, 14, 15, 16, 17, 19, 20, 21, 22, 23, 24, 25, 26, 27, 28, 29, 30], wr := [22] }) (args := [.slice lA ln lc]) (by kernel_rfl) (Bodies.cons Tryz.call13 (Bodies.cons Tryz.call14 (Bodies.cons Tryz.call15 (Bodies.cons Tryz.call16 (Bodies.cons Tryz.call17 (Bodies.cons Tryz.call19 (Bodies.cons Tryz.call20 (Bodies.cons Tryz.call21 (Bodies.cons Tryz.call22 (Bodies.cons Tryz.call23 (Bodies.cons Tryz.call24 (Bodies.cons Tryz.call25 (Bodies.cons Tryz.call26 (Bodies.cons Tryz.call27 (Bodies.cons Tryz.call28 (Bodies.cons Tryz.call29 (Bodies.cons Tryz.call30 Bodies.nil))))))))))))))))) (Eq.mp (by kernel_rfl : LNearestLeast Tryz.prog lA ln lc h K = _) hvc)
def PNew (P : Program) (lA : OA) (ln lc : Nat) (h : Heap) (K : Value → Heap → Prop) : Prop :=
  (0 ≤ (if (400 : Int) < (ln : Int) then (400 : Int) else (ln : Int)) ∧ (if (400 : Int) < (ln : Int) then (400 : Int) else (ln : Int)) ≤ (lc : Int)) ∧ wpH P (Instr.box 94 (.agg #[.slice (cutA lA lc 0 1) ((((if (400 : Int) < (ln : Int) then (400 : Int) else (ln : Int))).toNat) - 0) (lc - 0), I (0 : Int)])) (fun v hp => ∃ (p : Addr), v = .pointer (some p) ∧ K (.pointer (some p)) hp) h
theorem PNew_ok (lA : OA) (ln lc : Nat) (hvc : PNew Tryz.prog lA ln lc h K) : FCall Tryz.prog f_PNew #[.slice lA ln lc] h K :=
  fn_sound Tryz.func19 (c := codeOf Tryz.f19) (by kernel_rfl) (rs := [.tmp 2]) (by kernel_rfl) (fa := { loops := [], cuts := [], orders := [] })
    (cfg := { n := 10, own := [], lim := none, fns := [], wr := [] }) (args := [.slice lA ln lc]) (by kernel_rfl) Bodies.nil (Eq.mp (by kernel_rfl : PNew Tryz.prog lA ln lc h K = _) hvc)
def PNext (P : Program) (t : OA) (n : Int) (h : Heap) (K : Value → Heap → Prop) : Prop :=
  ∃ a, t = some a ∧ ∃ (t9 : Int), Heap.cell? h (Addr.add a 1) = some (I t9) ∧ ∃ a1, t = some a1 ∧ ∃ (t13A : OA) (t13n t13c : Nat), Heap.cell? h (Addr.add a1 0) = some (.slice t13A t13n t13c) ∧ Br (decide (t9 ≥ (t13n : Int))) (K (I (0 : Int)) h)
  (∃ a2, t = some a2 ∧ ∃ (t19A : OA) (t19n t19c : Nat), Heap.cell? h (Addr.add a2 0) = some (.slice t19A t19n t19c) ∧ ∃ a3, t = some a3 ∧ ∃ (t23 : Int), Heap.cell? h (Addr.add a3 1) = some (I t23) ∧ ∃ a4, t19A = some a4 ∧ 0 ≤ t23 ∧ t23 < (t19n : Int) ∧ ∃ (t25 : Int), Heap.cell? h (Addr.add a4 ((t23).toNat * 1)) = some (I t25) ∧ ∃ a5, t = some a5 ∧ ∃ (t29 : Int), Heap.cell? h (Addr.add a5 1) = some (I t29) ∧ ∃ a6, t = some a6 ∧ wpH P (Instr.storeAt 3 (.pointer (some (Addr.add a6 1))) (I (wi64 (t29 + (1 : Int))))) (fun _ hp => Br (decide (n = 0)) False
  (Br (decide (n = 0)) False
  (K (I (Int.tmod (wi64 ((Int.tmod t25 n) + n)) n)) hp))) h)
theorem PNext_ok (t : OA) (n : Int) (hvc : PNext Tryz.prog t n h K) : FCall Tryz.prog f_PNext #[.pointer t, I n] h K :=
  fn_sound Tryz.func22 (c := codeOf Tryz.f22) (by kernel_rfl) (rs := [.tmp 4]) (by kernel_rfl) (fa := { loops := [], cuts := [], orders := [(1, ([0, 1, 2, 3, 4, 5, 6, 7, 8, 9], [[], [0], [0, 1], [0, 1, 2], [], [4], [4, 5], [4, 5, 6], [4, 5, 6, 7], [0, 1, 2, 3, 4, 5, 6, 7, 8]])), (3, ([0, 1, 2, 3, 4, 5, 6, 7, 8, 9, 10], [[], [0], [0, 1], [0, 1, 2], [], [4], [4, 5], [4, 5, 6], [0, 1, 2, 3, 4, 5, 6, 7], [0, 1, 2, 3, 4, 5, 6, 7, 8], [0, 1, 2, 3, 4, 5, 6, 7, 8, 9]]))] })
    (cfg := { n := 40, own := [], lim := none, fns := [], wr := [] }) (args := [.pointer t, I n]) (by kernel_rfl) Bodies.nil (Eq.mp (by kernel_rfl : PNext Tryz.prog t n h K = _) hvc)
end Go.Proofs.YtgnclfejnndicaaGreatDoor
