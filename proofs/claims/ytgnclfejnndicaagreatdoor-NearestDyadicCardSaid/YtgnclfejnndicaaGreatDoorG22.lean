/-
  Texts of this proof, merged by a program of ours: VcN.
-/
import Derived.Test.YtgnclfejnndicaaGreatDoorProg
import Derived.Test.YtgnclfejnndicaaGreatDoorG05
import Derived.Test.YtgnclfejnndicaaGreatDoorG12
import Derived.Test.YtgnclfejnndicaaGreatDoorG08
/-
  Written by wip/tools/vcgen.py: what is asked of each function's body; each equation is checked by the kernel.
-/
namespace Go.Proofs.YtgnclfejnndicaaGreatDoor
open Go
set_option maxRecDepth 100000
set_option linter.unusedVariables false
variable {h : Heap} {K : Value → Heap → Prop}
abbrev f_EInverse : Nat := 91
abbrev f_EQuotients : Nat := 74
abbrev f_EConvergents : Nat := 31
abbrev f_EQuotients1 : Nat := 34
abbrev f_ESimplest : Nat := 60
abbrev f_ESimplest1 : Nat := 14
abbrev f_EAfter : Nat := 75
abbrev f_ENumber : Nat := 76
abbrev f_FOne : Nat := 65
abbrev f_FQuotients : Nat := 35
abbrev f_FConvergents : Nat := 38
abbrev f_FSimplest : Nat := 18
abbrev f_LKnown : Nat := 13
abbrev f_LDistance : Nat := 33
abbrev f_LNearestSimplest : Nat := 3
abbrev f_LNearestLeast : Nat := 4
abbrev f_LNearestConverges : Nat := 5
abbrev f_LNearestQuotients : Nat := 6
abbrev f_PNew : Nat := 19
abbrev f_PNext : Nat := 22
abbrev f_GSameStrings : Nat := 36
abbrev ty_tInts : Nat := 37
abbrev ty_tInts_e : Nat := 3
def EInverse (P : Program) (q : ByteArray) (h : Heap) (K : Value → Heap → Prop) : Prop :=
  FCall P f_TDiv #[.string ({ data := #[49] } : ByteArray), .string q] h (fun r hp => ∃ (t7a : ByteArray) (t7b : Bool), r = .tuple #[.string t7a, .bool t7b] ∧ K (.string t7a) hp)
theorem EInverse_ok (q : ByteArray) (hvc : EInverse Tryz.prog q h K) : FCall Tryz.prog f_EInverse #[.string q] h K :=
  fn_sound Tryz.func91 (c := codeOf Tryz.f91) (by kernel_rfl) (rs := [.tmp 2]) (by kernel_rfl) (fa := { loops := [], cuts := [], orders := [] })
    (cfg := { n := 11, own := [], lim := none, fns := [82], wr := [] }) (args := [.string q]) (by kernel_rfl) (Bodies.cons Tryz.call82 Bodies.nil) (Eq.mp (by kernel_rfl : EInverse Tryz.prog q h K = _) hvc)
def ESimplest (P : Program) (lo hi : ByteArray) (h : Heap) (K : Value → Heap → Prop) : Prop :=
  FCall P f_TSign #[.string hi] h (fun r hp => ∃ (t9 : Int), r = I t9 ∧ Br (decide (t9 < (0 : Int))) (FCall P f_TNeg #[.string hi] hp (fun r1 hp1 => ∃ (t12 : ByteArray), r1 = .string t12 ∧ FCall P f_TNeg #[.string lo] hp1 (fun r2 hp2 => ∃ (t14 : ByteArray), r2 = .string t14 ∧ FCall P f_ESimplest #[.string t12, .string t14] hp2 (fun r3 hp3 => ∃ (t15 : ByteArray), r3 = .string t15 ∧ FCall P f_TNeg #[.string t15] hp3 (fun r4 hp4 => ∃ (t16 : ByteArray), r4 = .string t16 ∧ K (.string t16) hp4)))))
  (FCall P f_TSign #[.string lo] hp (fun r5 hp5 => ∃ (t19 : Int), r5 = I t19 ∧ Br (decide (t19 ≤ (0 : Int))) (K (.string ({ data := #[48] } : ByteArray)) hp5)
  (FCall P f_TCeil #[.string lo] hp5 (fun r6 hp6 => ∃ (t22 : ByteArray), r6 = .string t22 ∧ FCall P f_TCompare #[.string t22, .string hi] hp6 (fun r7 hp7 => ∃ (t25 : Int), r7 = I t25 ∧ Br (decide (t25 ≤ (0 : Int))) (K (.string t22) hp7)
  (FCall P f_TFloor #[.string lo] hp7 (fun r8 hp8 => ∃ (t28 : ByteArray), r8 = .string t28 ∧ FCall P f_TSub #[.string hi, .string t28] hp8 (fun r9 hp9 => ∃ (t31 : ByteArray), r9 = .string t31 ∧ FCall P f_EInverse #[.string t31] hp9 (fun r10 hp10 => ∃ (t32 : ByteArray), r10 = .string t32 ∧ FCall P f_TSub #[.string lo, .string t28] hp10 (fun r11 hp11 => ∃ (t35 : ByteArray), r11 = .string t35 ∧ FCall P f_EInverse #[.string t35] hp11 (fun r12 hp12 => ∃ (t36 : ByteArray), r12 = .string t36 ∧ FCall P f_ESimplest #[.string t32, .string t36] hp12 (fun r13 hp13 => ∃ (t37 : ByteArray), r13 = .string t37 ∧ FCall P f_EInverse #[.string t37] hp13 (fun r14 hp14 => ∃ (t40 : ByteArray), r14 = .string t40 ∧ FCall P f_TAdd #[.string t28, .string t40] hp14 (fun r15 hp15 => ∃ (t41 : ByteArray), r15 = .string t41 ∧ K (.string t41) hp15)))))))))))))))
theorem ESimplest_ok (lo hi : ByteArray) (hvc : ESimplest Tryz.prog lo hi h K) : FCall Tryz.prog f_ESimplest #[.string lo, .string hi] h K :=
  fn_sound Tryz.func60 (c := codeOf Tryz.f60) (by kernel_rfl) (rs := [.tmp 4]) (by kernel_rfl) (fa := { loops := [], cuts := [], orders := [] })
    (cfg := { n := 42, own := [], lim := none, fns := [59, 60, 78, 80, 81, 91, 109, 110, 111], wr := [] }) (args := [.string lo, .string hi]) (by kernel_rfl) (Bodies.cons Tryz.call59 (Bodies.cons Tryz.call60 (Bodies.cons Tryz.call78 (Bodies.cons Tryz.call80 (Bodies.cons Tryz.call81 (Bodies.cons Tryz.call91 (Bodies.cons Tryz.call109 (Bodies.cons Tryz.call110 (Bodies.cons Tryz.call111 Bodies.nil))))))))) (Eq.mp (by kernel_rfl : ESimplest Tryz.prog lo hi h K = _) hvc)
def ESimplest1 (P : Program) (lo hi : ByteArray) (h : Heap) (K : Value → Heap → Prop) : Prop :=
  ∃ (Jv : List Value → Heap → Prop), (FCall P f_TValid #[.string lo] h (fun r hp => ∃ (t7 : Bool), r = .bool t7 ∧ Br (!t7) (Jv [.bool true] hp)
  (FCall P f_TValid #[.string hi] hp (fun r1 hp1 => ∃ (t11 : Bool), r1 = .bool t11 ∧ Jv [.bool (!t11)] hp1)))) ∧
  ∀ (t13 : Bool), ∀ hp2, Jv [.bool t13] hp2 → Br t13 (K (.tuple #[.string ({ data := #[] } : ByteArray), I 1]) hp2)
  (FCall P f_TCompare #[.string hi, .string lo] hp2 (fun r2 hp3 => ∃ (t16 : Int), r2 = I t16 ∧ Br (decide (t16 < (0 : Int))) (K (.tuple #[.string ({ data := #[] } : ByteArray), I 3]) hp3)
  (FCall P f_ESimplest #[.string lo, .string hi] hp3 (fun r3 hp4 => ∃ (t20 : ByteArray), r3 = .string t20 ∧ K (.tuple #[.string t20, I 0]) hp4))))
theorem ESimplest1_ok (lo hi : ByteArray) (hvc : ESimplest1 Tryz.prog lo hi h K) : FCall Tryz.prog f_ESimplest1 #[.string lo, .string hi] h K :=
  fn_sound Tryz.func14 (c := codeOf Tryz.f14) (by kernel_rfl) (rs := [.tmp 4, .tmp 5]) (by kernel_rfl) (fa := { loops := [], cuts := [(2, { slots := [13], owns := [], zs := [.bool false], lim := { slots := [6, 7, 8, 9, 10, 11, 12, 13], keys := [] } })], orders := [] })
    (cfg := { n := 21, own := [], lim := none, fns := [58, 59, 60], wr := [] }) (args := [.string lo, .string hi]) (by kernel_rfl) (Bodies.cons Tryz.call58 (Bodies.cons Tryz.call59 (Bodies.cons Tryz.call60 Bodies.nil))) (Eq.mp (by kernel_rfl : ESimplest1 Tryz.prog lo hi h K = _) hvc)
def FOne (P : Program)  (h : Heap) (K : Value → Heap → Prop) : Prop :=
  FCall P f_NR #[I 1] h (fun r hp => ∃ (t10 : Bool) (t11A : OA) (t11n t11c : Nat) (t12 : Bool) (t13A : OA) (t13n t13c : Nat), r = .agg #[.bool t10, .slice t11A t11n t11c, .bool t12, .slice t13A t13n t13c] ∧ K (.agg #[.bool t10, .slice t11A t11n t11c, .bool t12, .slice t13A t13n t13c]) hp)
theorem FOne_ok  (hvc : FOne Tryz.prog  h K) : FCall Tryz.prog f_FOne #[] h K :=
  fn_sound Tryz.func65 (c := codeOf Tryz.f65) (by kernel_rfl) (rs := [.cell 0 30]) (by kernel_rfl) (fa := { loops := [], cuts := [], orders := [] })
    (cfg := { n := 2, own := [0], lim := none, fns := [30], wr := [] }) (args := []) (by kernel_rfl) (Bodies.cons Tryz.call30 Bodies.nil) (Eq.mp (by kernel_rfl : FOne Tryz.prog  h K = _) hvc)
def LKnown (P : Program)  (h : Heap) (K : Value → Heap → Prop) : Prop :=
  FCall P f_ESimplest1 #[.string ({ data := #[51, 47, 49, 48] } : ByteArray), .string ({ data := #[50, 47, 53] } : ByteArray)] h (fun r hp => ∃ (t4a : ByteArray) (t4b : Int), r = .tuple #[.string t4a, I t4b] ∧ Br (t4b == (0 : Int)) (K (.bool (ByteArray.toList t4a == ByteArray.toList ({ data := #[49, 47, 51] } : ByteArray))) hp)
  (K (.bool false) hp))
theorem LKnown_ok  (hvc : LKnown Tryz.prog  h K) : FCall Tryz.prog f_LKnown #[] h K :=
  fn_sound Tryz.func13 (c := codeOf Tryz.f13) (by kernel_rfl) (rs := [.tmp 0]) (by kernel_rfl) (fa := { loops := [], cuts := [], orders := [] })
    (cfg := { n := 13, own := [], lim := none, fns := [14], wr := [] }) (args := []) (by kernel_rfl) (Bodies.cons Tryz.call14 Bodies.nil) (Eq.mp (by kernel_rfl : LKnown Tryz.prog  h K = _) hvc)
end Go.Proofs.YtgnclfejnndicaaGreatDoor
