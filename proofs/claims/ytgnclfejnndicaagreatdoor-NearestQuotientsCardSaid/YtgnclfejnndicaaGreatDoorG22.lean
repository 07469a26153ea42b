/-
  Texts of this proof, merged by a program of ours: VcN.
-/
import Derived.Test.YtgnclfejnndicaaGreatDoorProg
import Derived.Test.YtgnclfejnndicaaGreatDoorG05
import Derived.Test.YtgnclfejnndicaaGreatDoorG12
import Derived.Test.YtgnclfejnndicaaGreatDoorG08
/-
  Written by wip/tools/vcgen.py: what is asked of each function's body; each equation is checked by the kernel.
-/
namespace Go.Proofs.YtgnclfejnndicaaGreatDoor
open Go
set_option maxRecDepth 100000
set_option linter.unusedVariables false
variable {h : Heap} {K : Value → Heap → Prop}
abbrev f_EIsInteger : Nat := 84
abbrev f_EInverse : Nat := 91
abbrev f_EQuotients : Nat := 74
abbrev f_EConvergents : Nat := 31
abbrev f_EBest : Nat := 43
abbrev f_ENearer : Nat := 85
abbrev f_EPower2 : Nat := 77
abbrev f_EDyadic : Nat := 39
abbrev f_EQuotients1 : Nat := 34
abbrev f_ESimplest : Nat := 60
abbrev f_ESimplest1 : Nat := 14
abbrev f_EAfter : Nat := 75
abbrev f_ENumber : Nat := 76
abbrev f_FOne : Nat := 65
abbrev f_FQuotients : Nat := 35
abbrev f_FConvergents : Nat := 38
abbrev f_FSimplest : Nat := 18
abbrev f_FBest : Nat := 44
abbrev f_FDistance : Nat := 86
abbrev f_FDyadic : Nat := 40
abbrev f_LKnown : Nat := 13
abbrev f_LDistance : Nat := 33
abbrev f_LNearestSimplest : Nat := 3
abbrev f_LNearestLeast : Nat := 4
abbrev f_LNearestConverges : Nat := 5
abbrev f_LNearestQuotients : Nat := 6
abbrev f_PNew : Nat := 19
abbrev f_PNext : Nat := 22
abbrev f_GSameStrings : Nat := 36
abbrev f_LNearestBest : Nat := 8
abbrev f_LNearestOwn : Nat := 9
abbrev f_LNearestDyadic : Nat := 7
abbrev ty_tInts : Nat := 37
abbrev ty_tInts_e : Nat := 3
def EInverse (P : Program) (q : ByteArray) (h : Heap) (K : Value → Heap → Prop) : Prop :=
  FCall P f_TDiv #[.string ({ data := #[49] } : ByteArray), .string q] h (fun r hp => ∃ (t7a : ByteArray) (t7b : Bool), r = .tuple #[.string t7a, .bool t7b] ∧ K (.string t7a) hp)
theorem EInverse_ok (q : ByteArray) (hvc : EInverse Tryz.prog q h K) : FCall Tryz.prog f_EInverse #[.string q] h K :=
  fn_sound Tryz.func91 (c := codeOf Tryz.f91) (by kernel_rfl) (rs := [.tmp 2]) (by kernel_rfl) (fa := { loops := [], cuts := [], orders := [] })
    (cfg := { n := 11, own := [], lim := none, fns := [82], wr := [] }) (args := [.string q]) (by kernel_rfl) (Bodies.cons Tryz.call82 Bodies.nil) (Eq.mp (by kernel_rfl : EInverse Tryz.prog q h K = _) hvc)
def EQuotients (P : Program) (q : ByteArray) (h : Heap) (K : Value → Heap → Prop) : Prop :=
  ∃ (Invv : List Value → Heap → Prop) (muv : List Value → Heap → Nat), Invv [.string q, .slice none 0 0] h ∧
  ∀ (q1 : ByteArray) (lA : OA) (ln lc : Nat), ∀ hp, Invv [.string q1, .slice lA ln lc] hp → FCall P f_TFloor #[.string q1] hp (fun r hp1 => ∃ (t6 : ByteArray), r = .string t6 ∧ wpH P (Instr.buildSlice 49 1 #[(0, .string t6)]) (fun v hp2 => ∃ (t9A : OA) (t9n t9c : Nat), v = .slice t9A t9n t9c ∧ wpH P (Builtin.append_ #[49, 49] 49 #[.slice lA ln lc, .slice t9A t9n t9c]) (fun v1 hp3 => ∃ (t10A : OA) (t10n t10c : Nat), v1 = .slice t10A t10n t10c ∧ Br (ByteArray.toList t6 == ByteArray.toList q1) (K (.slice t10A t10n t10c) hp3)
  (FCall P f_TSub #[.string q1, .string t6] hp3 (fun r1 hp4 => ∃ (t17 : ByteArray), r1 = .string t17 ∧ FCall P f_EInverse #[.string t17] hp4 (fun r2 hp5 => ∃ (t18 : ByteArray), r2 = .string t18 ∧ Invv [.string t18, .slice t10A t10n t10c] hp5 ∧ muv [.string t18, .slice t10A t10n t10c] hp5 < muv [.string q1, .slice lA ln lc] hp)))) hp2) hp1)
theorem EQuotients_ok (q : ByteArray) (hvc : EQuotients Tryz.prog q h K) : FCall Tryz.prog f_EQuotients #[.string q] h K :=
  fn_sound Tryz.func74 (c := codeOf Tryz.f74) (by kernel_rfl) (rs := [.tmp 2]) (by kernel_rfl) (fa := { loops := [(2, { slots := [0, 3], owns := [], zs := [.string ⟨#[]⟩, .slice none 0 0], lim := { slots := [0, 2, 3, 4, 5, 6, 7, 8, 9, 10, 11, 12, 13, 14, 15, 16, 17, 18], keys := [] } })], cuts := [], orders := [] })
    (cfg := { n := 19, own := [], lim := none, fns := [80, 81, 91], wr := [] }) (args := [.string q]) (by kernel_rfl) (Bodies.cons Tryz.call80 (Bodies.cons Tryz.call81 (Bodies.cons Tryz.call91 Bodies.nil))) (Eq.mp (by kernel_rfl : EQuotients Tryz.prog q h K = _) hvc)
def EConvergents (P : Program) (q : ByteArray) (h : Heap) (K : Value → Heap → Prop) : Prop :=
  FCall P f_TValid #[.string q] h (fun r hp => ∃ (t10 : Bool), r = .bool t10 ∧ Br (!t10) (K (.tuple #[.slice none 0 0, I (1 : Int)]) hp)
  (FCall P f_EQuotients #[.string q] hp (fun r1 hp1 => ∃ (t15A : OA) (t15n t15c : Nat), r1 = .slice t15A t15n t15c ∧ ∃ (Invv : List Value → Heap → Prop) (muv : List Value → Heap → Nat), Invv [.slice none 0 0, I (0 : Int), .string ({ data := #[48] } : ByteArray), .string ({ data := #[49] } : ByteArray), .string ({ data := #[49] } : ByteArray), .string ({ data := #[48] } : ByteArray)] hp1 ∧
  ∀ (lA : OA) (ln lc : Nat) (t17 : Int) (before0 before1 : ByteArray) (current0 current1 : ByteArray), ∀ hp2, Invv [.slice lA ln lc, I t17, .string before0, .string before1, .string current0, .string current1] hp2 → Br (decide (t17 < (t15n : Int))) (∃ a, t15A = some a ∧ 0 ≤ t17 ∧ t17 < (t15n : Int) ∧ ∃ (t20 : ByteArray), Heap.cell? hp2 (Addr.add a ((t17).toNat * 1)) = some (.string t20) ∧ FCall P f_EAfter #[.agg #[.string current0, .string current1], .agg #[.string before0, .string before1], .string t20] hp2 (fun r2 hp3 => ∃ (t250 t251 : ByteArray), r2 = .agg #[.string t250, .string t251] ∧ Heap.le hp2 hp3 ∧ FCall P f_ENumber #[.agg #[.string t250, .string t251]] hp3 (fun r3 hp4 => ∃ (t28 : ByteArray), r3 = .string t28 ∧ wpH P (Instr.buildSlice 49 1 #[(0, .string t28)]) (fun v hp5 => ∃ (t29A : OA) (t29n t29c : Nat), v = .slice t29A t29n t29c ∧ wpH P (Builtin.append_ #[49, 49] 49 #[.slice lA ln lc, .slice t29A t29n t29c]) (fun v1 hp6 => ∃ (t30A : OA) (t30n t30c : Nat), v1 = .slice t30A t30n t30c ∧ Invv [.slice t30A t30n t30c, I (wi64 (t17 + (1 : Int))), .string current0, .string current1, .string t250, .string t251] hp6 ∧ muv [.slice t30A t30n t30c, I (wi64 (t17 + (1 : Int))), .string current0, .string current1, .string t250, .string t251] hp6 < muv [.slice lA ln lc, I t17, .string before0, .string before1, .string current0, .string current1] hp2) hp5) hp4)))
  (K (.tuple #[.slice lA ln lc, I (0 : Int)]) hp2))))
theorem EConvergents_ok (q : ByteArray) (hvc : EConvergents Tryz.prog q h K) : FCall Tryz.prog f_EConvergents #[.string q] h K :=
  fn_sound Tryz.func31 (c := codeOf Tryz.f31) (by kernel_rfl) (rs := [.tmp 2, .tmp 3]) (by kernel_rfl) (fa := { loops := [(6, { slots := [4, 17], owns := [(5, 2), (6, 2)], zs := [.slice none 0 0, .int .i64 0, .string ⟨#[]⟩, .string ⟨#[]⟩, .string ⟨#[]⟩, .string ⟨#[]⟩], lim := { slots := [4, 8, 17, 18, 19, 20, 21, 22, 23, 24, 25, 26, 27, 28, 29, 30, 31], keys := [5, 6] } })], cuts := [], orders := [(8, ([0, 1, 2, 3, 4, 5, 6], [[], [], [], [], [1, 2, 3], [0, 1, 2, 3, 4], [0, 1, 2, 3, 4, 5]]))] })
    (cfg := { n := 33, own := [5, 6], lim := none, fns := [58, 74, 75, 76], wr := [] }) (args := [.string q]) (by kernel_rfl) (Bodies.cons Tryz.call58 (Bodies.cons Tryz.call74 (Bodies.cons Tryz.call75 (Bodies.cons Tryz.call76 Bodies.nil)))) (Eq.mp (by kernel_rfl : EConvergents Tryz.prog q h K = _) hvc)
def EQuotients1 (P : Program) (q : ByteArray) (h : Heap) (K : Value → Heap → Prop) : Prop :=
  FCall P f_TValid #[.string q] h (fun r hp => ∃ (t5 : Bool), r = .bool t5 ∧ Br (!t5) (K (.tuple #[.slice none 0 0, I (1 : Int)]) hp)
  (FCall P f_EQuotients #[.string q] hp (fun r1 hp1 => ∃ (t8A : OA) (t8n t8c : Nat), r1 = .slice t8A t8n t8c ∧ K (.tuple #[.slice t8A t8n t8c, I (0 : Int)]) hp1)))
theorem EQuotients1_ok (q : ByteArray) (hvc : EQuotients1 Tryz.prog q h K) : FCall Tryz.prog f_EQuotients1 #[.string q] h K :=
  fn_sound Tryz.func34 (c := codeOf Tryz.f34) (by kernel_rfl) (rs := [.tmp 2, .tmp 3]) (by kernel_rfl) (fa := { loops := [], cuts := [], orders := [] })
    (cfg := { n := 9, own := [], lim := none, fns := [58, 74], wr := [] }) (args := [.string q]) (by kernel_rfl) (Bodies.cons Tryz.call58 (Bodies.cons Tryz.call74 Bodies.nil)) (Eq.mp (by kernel_rfl : EQuotients1 Tryz.prog q h K = _) hvc)
def ESimplest (P : Program) (lo hi : ByteArray) (h : Heap) (K : Value → Heap → Prop) : Prop :=
  FCall P f_TSign #[.string hi] h (fun r hp => ∃ (t9 : Int), r = I t9 ∧ Br (decide (t9 < (0 : Int))) (FCall P f_TNeg #[.string hi] hp (fun r1 hp1 => ∃ (t12 : ByteArray), r1 = .string t12 ∧ FCall P f_TNeg #[.string lo] hp1 (fun r2 hp2 => ∃ (t14 : ByteArray), r2 = .string t14 ∧ FCall P f_ESimplest #[.string t12, .string t14] hp2 (fun r3 hp3 => ∃ (t15 : ByteArray), r3 = .string t15 ∧ FCall P f_TNeg #[.string t15] hp3 (fun r4 hp4 => ∃ (t16 : ByteArray), r4 = .string t16 ∧ K (.string t16) hp4)))))
  (FCall P f_TSign #[.string lo] hp (fun r5 hp5 => ∃ (t19 : Int), r5 = I t19 ∧ Br (decide (t19 ≤ (0 : Int))) (K (.string ({ data := #[48] } : ByteArray)) hp5)
  (FCall P f_TCeil #[.string lo] hp5 (fun r6 hp6 => ∃ (t22 : ByteArray), r6 = .string t22 ∧ FCall P f_TCompare #[.string t22, .string hi] hp6 (fun r7 hp7 => ∃ (t25 : Int), r7 = I t25 ∧ Br (decide (t25 ≤ (0 : Int))) (K (.string t22) hp7)
  (FCall P f_TFloor #[.string lo] hp7 (fun r8 hp8 => ∃ (t28 : ByteArray), r8 = .string t28 ∧ FCall P f_TSub #[.string hi, .string t28] hp8 (fun r9 hp9 => ∃ (t31 : ByteArray), r9 = .string t31 ∧ FCall P f_EInverse #[.string t31] hp9 (fun r10 hp10 => ∃ (t32 : ByteArray), r10 = .string t32 ∧ FCall P f_TSub #[.string lo, .string t28] hp10 (fun r11 hp11 => ∃ (t35 : ByteArray), r11 = .string t35 ∧ FCall P f_EInverse #[.string t35] hp11 (fun r12 hp12 => ∃ (t36 : ByteArray), r12 = .string t36 ∧ FCall P f_ESimplest #[.string t32, .string t36] hp12 (fun r13 hp13 => ∃ (t37 : ByteArray), r13 = .string t37 ∧ FCall P f_EInverse #[.string t37] hp13 (fun r14 hp14 => ∃ (t40 : ByteArray), r14 = .string t40 ∧ FCall P f_TAdd #[.string t28, .string t40] hp14 (fun r15 hp15 => ∃ (t41 : ByteArray), r15 = .string t41 ∧ K (.string t41) hp15)))))))))))))))
theorem ESimplest_ok (lo hi : ByteArray) (hvc : ESimplest Tryz.prog lo hi h K) : FCall Tryz.prog f_ESimplest #[.string lo, .string hi] h K :=
  fn_sound Tryz.func60 (c := codeOf Tryz.f60) (by kernel_rfl) (rs := [.tmp 4]) (by kernel_rfl) (fa := { loops := [], cuts := [], orders := [] })
    (cfg := { n := 42, own := [], lim := none, fns := [59, 60, 78, 80, 81, 91, 109, 110, 111], wr := [] }) (args := [.string lo, .string hi]) (by kernel_rfl) (Bodies.cons Tryz.call59 (Bodies.cons Tryz.call60 (Bodies.cons Tryz.call78 (Bodies.cons Tryz.call80 (Bodies.cons Tryz.call81 (Bodies.cons Tryz.call91 (Bodies.cons Tryz.call109 (Bodies.cons Tryz.call110 (Bodies.cons Tryz.call111 Bodies.nil))))))))) (Eq.mp (by kernel_rfl : ESimplest Tryz.prog lo hi h K = _) hvc)
def ESimplest1 (P : Program) (lo hi : ByteArray) (h : Heap) (K : Value → Heap → Prop) : Prop :=
  ∃ (Jv : List Value → Heap → Prop), (FCall P f_TValid #[.string lo] h (fun r hp => ∃ (t7 : Bool), r = .bool t7 ∧ Br (!t7) (Jv [.bool true] hp)
  (FCall P f_TValid #[.string hi] hp (fun r1 hp1 => ∃ (t11 : Bool), r1 = .bool t11 ∧ Jv [.bool (!t11)] hp1)))) ∧
  ∀ (t13 : Bool), ∀ hp2, Jv [.bool t13] hp2 → Br t13 (K (.tuple #[.string ({ data := #[] } : ByteArray), I (1 : Int)]) hp2)
  (FCall P f_TCompare #[.string hi, .string lo] hp2 (fun r2 hp3 => ∃ (t16 : Int), r2 = I t16 ∧ Br (decide (t16 < (0 : Int))) (K (.tuple #[.string ({ data := #[] } : ByteArray), I (3 : Int)]) hp3)
  (FCall P f_ESimplest #[.string lo, .string hi] hp3 (fun r3 hp4 => ∃ (t20 : ByteArray), r3 = .string t20 ∧ K (.tuple #[.string t20, I (0 : Int)]) hp4))))
theorem ESimplest1_ok (lo hi : ByteArray) (hvc : ESimplest1 Tryz.prog lo hi h K) : FCall Tryz.prog f_ESimplest1 #[.string lo, .string hi] h K :=
  fn_sound Tryz.func14 (c := codeOf Tryz.f14) (by kernel_rfl) (rs := [.tmp 4, .tmp 5]) (by kernel_rfl) (fa := { loops := [], cuts := [(2, { slots := [13], owns := [], zs := [.bool false], lim := { slots := [6, 7, 8, 9, 10, 11, 12, 13], keys := [] } })], orders := [] })
    (cfg := { n := 21, own := [], lim := none, fns := [58, 59, 60], wr := [] }) (args := [.string lo, .string hi]) (by kernel_rfl) (Bodies.cons Tryz.call58 (Bodies.cons Tryz.call59 (Bodies.cons Tryz.call60 Bodies.nil))) (Eq.mp (by kernel_rfl : ESimplest1 Tryz.prog lo hi h K = _) hvc)
def EAfter (P : Program) (f0 f1 : ByteArray) (before0 before1 a : ByteArray) (h : Heap) (K : Value → Heap → Prop) : Prop :=
  FCall P f_TMul #[.string a, .string f0] h (fun r hp => ∃ (t12 : ByteArray), r = .string t12 ∧ Heap.le h hp ∧ FCall P f_TAdd #[.string before0, .string t12] hp (fun r1 hp1 => ∃ (t13 : ByteArray), r1 = .string t13 ∧ Heap.le hp hp1 ∧ FCall P f_TMul #[.string a, .string f1] hp1 (fun r2 hp2 => ∃ (t19 : ByteArray), r2 = .string t19 ∧ Heap.le hp1 hp2 ∧ FCall P f_TAdd #[.string before1, .string t19] hp2 (fun r3 hp3 => ∃ (t20 : ByteArray), r3 = .string t20 ∧ Heap.le hp2 hp3 ∧ K (.agg #[.string t13, .string t20]) hp3))))
theorem EAfter_ok (f0 f1 : ByteArray) (before0 before1 a : ByteArray) (hvc : EAfter Tryz.prog f0 f1 before0 before1 a h K) : FCall Tryz.prog f_EAfter #[.agg #[.string f0, .string f1], .agg #[.string before0, .string before1], .string a] h K :=
  fn_sound Tryz.func75 (c := codeOf Tryz.f75) (by kernel_rfl) (rs := [.cell 6 103]) (by kernel_rfl) (fa := { loops := [], cuts := [], orders := [(1, ([0, 1, 2, 3, 4, 7, 8, 9, 10, 11, 5, 6, 12, 13, 14, 15], [[], [0], [], [], [3], [2, 3, 4], [0, 1, 2, 3, 4, 5], [], [7], [], [], [10], [0, 1, 2, 3, 4, 5, 6, 9, 10, 11], [0, 1, 2, 3, 4, 5, 6, 7, 8, 9, 10, 11, 12], [0, 1, 2, 3, 4, 5, 6, 7, 8, 9, 10, 11, 12, 13], [0, 1, 2, 3, 4, 5, 6, 7, 8, 9, 10, 11, 12, 13, 14]]))] })
    (cfg := { n := 22, own := [3, 4, 6], lim := none, fns := [78, 79], wr := [] }) (args := [.agg #[.string f0, .string f1], .agg #[.string before0, .string before1], .string a]) (by kernel_rfl) (Bodies.cons Tryz.call78 (Bodies.cons Tryz.call79 Bodies.nil)) (Eq.mp (by kernel_rfl : EAfter Tryz.prog f0 f1 before0 before1 a h K = _) hvc)
def ENumber (P : Program) (f0 f1 : ByteArray) (h : Heap) (K : Value → Heap → Prop) : Prop :=
  Br (ByteArray.toList f1 == ByteArray.toList ({ data := #[49] } : ByteArray)) (K (.string f0) h)
  (((ByteArray.size f0 + ByteArray.size ({ data := #[47] } : ByteArray) : Nat) : Int) ≤ 9223372036854775807 ∧ ((ByteArray.size (f0 ++ ({ data := #[47] } : ByteArray)) + ByteArray.size f1 : Nat) : Int) ≤ 9223372036854775807 ∧ K (.string ((f0 ++ ({ data := #[47] } : ByteArray)) ++ f1)) h)
theorem ENumber_ok (f0 f1 : ByteArray) (hvc : ENumber Tryz.prog f0 f1 h K) : FCall Tryz.prog f_ENumber #[.agg #[.string f0, .string f1]] h K :=
  fn_sound Tryz.func76 (c := codeOf Tryz.f76) (by kernel_rfl) (rs := [.tmp 2]) (by kernel_rfl) (fa := { loops := [], cuts := [], orders := [] })
    (cfg := { n := 14, own := [1], lim := none, fns := [], wr := [] }) (args := [.agg #[.string f0, .string f1]]) (by kernel_rfl) Bodies.nil (Eq.mp (by kernel_rfl : ENumber Tryz.prog f0 f1 h K = _) hvc)
def FOne (P : Program)  (h : Heap) (K : Value → Heap → Prop) : Prop :=
  FCall P f_NR #[I (1 : Int)] h (fun r hp => ∃ (t10 : Bool) (t11A : OA) (t11n t11c : Nat) (t12 : Bool) (t13A : OA) (t13n t13c : Nat), r = .agg #[.bool t10, .slice t11A t11n t11c, .bool t12, .slice t13A t13n t13c] ∧ K (.agg #[.bool t10, .slice t11A t11n t11c, .bool t12, .slice t13A t13n t13c]) hp)
theorem FOne_ok  (hvc : FOne Tryz.prog  h K) : FCall Tryz.prog f_FOne #[] h K :=
  fn_sound Tryz.func65 (c := codeOf Tryz.f65) (by kernel_rfl) (rs := [.cell 0 30]) (by kernel_rfl) (fa := { loops := [], cuts := [], orders := [] })
    (cfg := { n := 2, own := [0], lim := none, fns := [30], wr := [] }) (args := []) (by kernel_rfl) (Bodies.cons Tryz.call30 Bodies.nil) (Eq.mp (by kernel_rfl : FOne Tryz.prog  h K = _) hvc)
def FQuotients (P : Program) (q0 : Bool) (q1A : OA) (q1n q1c : Nat) (q2 : Bool) (q3A : OA) (q3n q3c : Nat) (h : Heap) (K : Value → Heap → Prop) : Prop :=
  ∃ (Invv : List Value → Heap → Prop) (muv : List Value → Heap → Nat), Invv [.slice none 0 0, .bool q0, .slice q1A q1n q1c, .bool q2, .slice q3A q3n q3c] h ∧
  ∀ (outA : OA) (outn outc : Nat) (q01 : Bool) (q11A : OA) (q11n q11c : Nat) (q21 : Bool) (q31A : OA) (q31n q31c : Nat), ∀ hp, Invv [.slice outA outn outc, .bool q01, .slice q11A q11n q11c, .bool q21, .slice q31A q31n q31c] hp → FCall P f_NFloor #[.agg #[.bool q01, .slice q11A q11n q11c, .bool q21, .slice q31A q31n q31c]] hp (fun r hp1 => ∃ (t60 : Bool) (t61A : OA) (t61n t61c : Nat), r = .agg #[.bool t60, .slice t61A t61n t61c] ∧ wpH P (Instr.buildSlice 54 1 #[(0, .agg #[.bool t60, .slice t61A t61n t61c, .bool false, .slice none 0 0])]) (fun v hp2 => ∃ (t10A : OA) (t10n t10c : Nat), v = .slice t10A t10n t10c ∧ wpH P (Builtin.append_ #[54, 54] 54 #[.slice outA outn outc, .slice t10A t10n t10c]) (fun v1 hp3 => ∃ (t11A : OA) (t11n t11c : Nat), v1 = .slice t11A t11n t11c ∧ FCall P f_NRSub #[.agg #[.bool q01, .slice q11A q11n q11c, .bool q21, .slice q31A q31n q31c], .agg #[.bool t60, .slice t61A t61n t61c, .bool false, .slice none 0 0]] hp3 (fun r1 hp4 => ∃ (t140 : Bool) (t141A : OA) (t141n t141c : Nat) (t142 : Bool) (t143A : OA) (t143n t143c : Nat), r1 = .agg #[.bool t140, .slice t141A t141n t141c, .bool t142, .slice t143A t143n t143c] ∧ FCall P f_NRSign #[.agg #[.bool t140, .slice t141A t141n t141c, .bool t142, .slice t143A t143n t143c]] hp4 (fun r2 hp5 => ∃ (t16 : Int), r2 = I t16 ∧ Br (t16 == (0 : Int)) (K (.slice t11A t11n t11c) hp5)
  (FCall P f_FOne #[] hp5 (fun r3 hp6 => ∃ (t190 : Bool) (t191A : OA) (t191n t191c : Nat) (t192 : Bool) (t193A : OA) (t193n t193c : Nat), r3 = .agg #[.bool t190, .slice t191A t191n t191c, .bool t192, .slice t193A t193n t193c] ∧ Heap.le hp5 hp6 ∧ FCall P f_NRDiv #[.agg #[.bool t190, .slice t191A t191n t191c, .bool t192, .slice t193A t193n t193c], .agg #[.bool t140, .slice t141A t141n t141c, .bool t142, .slice t143A t143n t143c]] hp6 (fun r4 hp7 => ∃ (t210 : Bool) (t211A : OA) (t211n t211c : Nat) (t212 : Bool) (t213A : OA) (t213n t213c : Nat), r4 = .agg #[.bool t210, .slice t211A t211n t211c, .bool t212, .slice t213A t213n t213c] ∧ Heap.le hp6 hp7 ∧ Invv [.slice t11A t11n t11c, .bool t210, .slice t211A t211n t211c, .bool t212, .slice t213A t213n t213c] hp7 ∧ muv [.slice t11A t11n t11c, .bool t210, .slice t211A t211n t211c, .bool t212, .slice t213A t213n t213c] hp7 < muv [.slice outA outn outc, .bool q01, .slice q11A q11n q11c, .bool q21, .slice q31A q31n q31c] hp)))))) hp2) hp1)
theorem FQuotients_ok (q0 : Bool) (q1A : OA) (q1n q1c : Nat) (q2 : Bool) (q3A : OA) (q3n q3c : Nat) (hvc : FQuotients Tryz.prog q0 q1A q1n q1c q2 q3A q3n q3c h K) : FCall Tryz.prog f_FQuotients #[.agg #[.bool q0, .slice q1A q1n q1c, .bool q2, .slice q3A q3n q3c]] h K :=
  fn_sound Tryz.func35 (c := codeOf Tryz.f35) (by kernel_rfl) (rs := [.tmp 2]) (by kernel_rfl) (fa := { loops := [(2, { slots := [3], owns := [(1, 4)], zs := [.slice none 0 0, .bool false, .slice none 0 0, .bool false, .slice none 0 0], lim := { slots := [2, 3, 4, 5, 6, 7, 8, 9, 10, 11, 12, 13, 14, 15, 16, 17, 18, 19, 20, 21], keys := [1, 4] } })], cuts := [], orders := [(7, ([1, 0, 2, 3], [[], [], [0, 1], [0, 1, 2]]))] })
    (cfg := { n := 22, own := [1, 4], lim := none, fns := [27, 41, 53, 65, 66], wr := [] }) (args := [.agg #[.bool q0, .slice q1A q1n q1c, .bool q2, .slice q3A q3n q3c]]) (by kernel_rfl) (Bodies.cons Tryz.call27 (Bodies.cons Tryz.call41 (Bodies.cons Tryz.call53 (Bodies.cons Tryz.call65 (Bodies.cons Tryz.call66 Bodies.nil))))) (Eq.mp (by kernel_rfl : FQuotients Tryz.prog q0 q1A q1n q1c q2 q3A q3n q3c h K = _) hvc)
def FConvergents (P : Program) (aA : OA) (an ac : Nat) (h : Heap) (K : Value → Heap → Prop) : Prop :=
  ∃ (Invv : List Value → Heap → Prop) (muv : List Value → Heap → Nat), Invv [.slice none 0 0, I (0 : Int)] h ∧
  ∀ (outA : OA) (outn outc : Nat) (t9 : Int), ∀ hp, Invv [.slice outA outn outc, I t9] hp → Br (decide (t9 < (an : Int))) (∃ a1, aA = some a1 ∧ 0 ≤ t9 ∧ t9 < (an : Int) ∧ ∃ (t150 : Bool) (t151A : OA) (t151n t151c : Nat) (t152 : Bool) (t153A : OA) (t153n t153c : Nat), Heap.cell? hp (Addr.add (Addr.add a1 ((t9).toNat * 4)) 0) = some (.bool t150) ∧ Heap.cell? hp (Addr.add (Addr.add a1 ((t9).toNat * 4)) 1) = some (.slice t151A t151n t151c) ∧ Heap.cell? hp (Addr.add (Addr.add a1 ((t9).toNat * 4)) 2) = some (.bool t152) ∧ Heap.cell? hp (Addr.add (Addr.add a1 ((t9).toNat * 4)) 3) = some (.slice t153A t153n t153c) ∧ ∃ (Invv1 : List Value → Heap → Prop) (muv1 : List Value → Heap → Nat), Invv1 [I (wi64 (t9 - (1 : Int))), .bool t150, .slice t151A t151n t151c, .bool t152, .slice t153A t153n t153c] hp ∧
  ∀ (i : Int) (v0 : Bool) (v1A : OA) (v1n v1c : Nat) (v2 : Bool) (v3A : OA) (v3n v3c : Nat), ∀ hp1, Invv1 [I i, .bool v0, .slice v1A v1n v1c, .bool v2, .slice v3A v3n v3c] hp1 → Br (decide (i ≥ (0 : Int))) (∃ a2, aA = some a2 ∧ 0 ≤ i ∧ i < (an : Int) ∧ ∃ (t250 : Bool) (t251A : OA) (t251n t251c : Nat) (t252 : Bool) (t253A : OA) (t253n t253c : Nat), Heap.cell? hp1 (Addr.add (Addr.add a2 ((i).toNat * 4)) 0) = some (.bool t250) ∧ Heap.cell? hp1 (Addr.add (Addr.add a2 ((i).toNat * 4)) 1) = some (.slice t251A t251n t251c) ∧ Heap.cell? hp1 (Addr.add (Addr.add a2 ((i).toNat * 4)) 2) = some (.bool t252) ∧ Heap.cell? hp1 (Addr.add (Addr.add a2 ((i).toNat * 4)) 3) = some (.slice t253A t253n t253c) ∧ FCall P f_FOne #[] hp1 (fun r hp2 => ∃ (t260 : Bool) (t261A : OA) (t261n t261c : Nat) (t262 : Bool) (t263A : OA) (t263n t263c : Nat), r = .agg #[.bool t260, .slice t261A t261n t261c, .bool t262, .slice t263A t263n t263c] ∧ Heap.le hp1 hp2 ∧ FCall P f_NRDiv #[.agg #[.bool t260, .slice t261A t261n t261c, .bool t262, .slice t263A t263n t263c], .agg #[.bool v0, .slice v1A v1n v1c, .bool v2, .slice v3A v3n v3c]] hp2 (fun r1 hp3 => ∃ (t280 : Bool) (t281A : OA) (t281n t281c : Nat) (t282 : Bool) (t283A : OA) (t283n t283c : Nat), r1 = .agg #[.bool t280, .slice t281A t281n t281c, .bool t282, .slice t283A t283n t283c] ∧ Heap.le hp2 hp3 ∧ FCall P f_NRAdd #[.agg #[.bool t250, .slice t251A t251n t251c, .bool t252, .slice t253A t253n t253c], .agg #[.bool t280, .slice t281A t281n t281c, .bool t282, .slice t283A t283n t283c]] hp3 (fun r2 hp4 => ∃ (t290 : Bool) (t291A : OA) (t291n t291c : Nat) (t292 : Bool) (t293A : OA) (t293n t293c : Nat), r2 = .agg #[.bool t290, .slice t291A t291n t291c, .bool t292, .slice t293A t293n t293c] ∧ Heap.le hp3 hp4 ∧ Invv1 [I (wi64 (i - (1 : Int))), .bool t290, .slice t291A t291n t291c, .bool t292, .slice t293A t293n t293c] hp4 ∧ muv1 [I (wi64 (i - (1 : Int))), .bool t290, .slice t291A t291n t291c, .bool t292, .slice t293A t293n t293c] hp4 < muv1 [I i, .bool v0, .slice v1A v1n v1c, .bool v2, .slice v3A v3n v3c] hp1))))
  (wpH P (Instr.buildSlice 54 1 #[(0, .agg #[.bool v0, .slice v1A v1n v1c, .bool v2, .slice v3A v3n v3c])]) (fun v hp5 => ∃ (t32A : OA) (t32n t32c : Nat), v = .slice t32A t32n t32c ∧ wpH P (Builtin.append_ #[54, 54] 54 #[.slice outA outn outc, .slice t32A t32n t32c]) (fun v1 hp6 => ∃ (t33A : OA) (t33n t33c : Nat), v1 = .slice t33A t33n t33c ∧ Invv [.slice t33A t33n t33c, I (wi64 (t9 + (1 : Int)))] hp6 ∧ muv [.slice t33A t33n t33c, I (wi64 (t9 + (1 : Int)))] hp6 < muv [.slice outA outn outc, I t9] hp) hp5) hp1))
  (K (.slice outA outn outc) hp)
theorem FConvergents_ok (aA : OA) (an ac : Nat) (hvc : FConvergents Tryz.prog aA an ac h K) : FCall Tryz.prog f_FConvergents #[.slice aA an ac] h K :=
  fn_sound Tryz.func38 (c := codeOf Tryz.f38) (by kernel_rfl) (rs := [.tmp 2]) (by kernel_rfl) (fa := { loops := [(3, { slots := [3, 9], owns := [], zs := [.slice none 0 0, .int .i64 0], lim := { slots := [3, 4, 5, 6, 9, 10, 11, 12, 13, 14, 15, 16, 17, 18, 19, 20, 21, 22, 23, 24, 25, 26, 27, 28, 29, 30, 31, 32, 33, 34], keys := [5] } }), (7, { slots := [6], owns := [(5, 4)], zs := [.int .i64 0, .bool false, .slice none 0 0, .bool false, .slice none 0 0], lim := { slots := [6, 18, 19, 20, 21, 22, 23, 24, 25, 26, 27, 28, 29], keys := [5] } })], cuts := [], orders := [(9, ([0, 1, 2, 3, 5, 4, 6, 7, 8], [[], [], [0, 1], [0, 1, 2], [], [], [4, 5], [0, 1, 2, 3, 4, 5, 6], [0, 1, 2, 3, 4, 5, 6, 7]]))] })
    (cfg := { n := 36, own := [5], lim := none, fns := [23, 65, 66], wr := [] }) (args := [.slice aA an ac]) (by kernel_rfl) (Bodies.cons Tryz.call23 (Bodies.cons Tryz.call65 (Bodies.cons Tryz.call66 Bodies.nil))) (Eq.mp (by kernel_rfl : FConvergents Tryz.prog aA an ac h K = _) hvc)
def LKnown (P : Program)  (h : Heap) (K : Value → Heap → Prop) : Prop :=
  FCall P f_ESimplest1 #[.string ({ data := #[51, 47, 49, 48] } : ByteArray), .string ({ data := #[50, 47, 53] } : ByteArray)] h (fun r hp => ∃ (t4a : ByteArray) (t4b : Int), r = .tuple #[.string t4a, I t4b] ∧ Br (t4b == (0 : Int)) (K (.bool (ByteArray.toList t4a == ByteArray.toList ({ data := #[49, 47, 51] } : ByteArray))) hp)
  (K (.bool false) hp))
theorem LKnown_ok  (hvc : LKnown Tryz.prog  h K) : FCall Tryz.prog f_LKnown #[] h K :=
  fn_sound Tryz.func13 (c := codeOf Tryz.f13) (by kernel_rfl) (rs := [.tmp 0]) (by kernel_rfl) (fa := { loops := [], cuts := [], orders := [] })
    (cfg := { n := 13, own := [], lim := none, fns := [14], wr := [] }) (args := []) (by kernel_rfl) (Bodies.cons Tryz.call14 Bodies.nil) (Eq.mp (by kernel_rfl : LKnown Tryz.prog  h K = _) hvc)
def LNearestQuotients (P : Program) (q : ByteArray) (h : Heap) (K : Value → Heap → Prop) : Prop :=
  Br (decide (((ByteArray.size q : Nat) : Int) > (60 : Int))) (FCall P f_LKnown #[] h (fun r hp => ∃ (t13 : Bool), r = .bool t13 ∧ K (.bool t13) hp))
  (FCall P f_EQuotients1 #[.string q] h (fun r1 hp1 => ∃ (t16aA : OA) (t16an t16ac : Nat) (t16b : Int), r1 = .tuple #[.slice t16aA t16an t16ac, I t16b] ∧ FCall P f_EConvergents #[.string q] hp1 (fun r2 hp2 => ∃ (t21aA : OA) (t21an t21ac : Nat) (t21b : Int), r2 = .tuple #[.slice t21aA t21an t21ac, I t21b] ∧ FCall P f_NRead #[.string q] hp2 (fun r3 hp3 => ∃ (t26a0 : Bool) (t26a1A : OA) (t26a1n t26a1c : Nat) (t26a2 : Bool) (t26a3A : OA) (t26a3n t26a3c : Nat) (t26b : Bool), r3 = .tuple #[.agg #[.bool t26a0, .slice t26a1A t26a1n t26a1c, .bool t26a2, .slice t26a3A t26a3n t26a3c], .bool t26b] ∧ Br (!t26b) (FCall P f_LKnown #[] hp3 (fun r4 hp4 => ∃ (t31 : Bool), r4 = .bool t31 ∧ Br t31 (Br (t16b == (1 : Int)) (Br (t21b == (1 : Int)) (K (.bool ((wi64 ((t16an : Int) + (t21an : Int))) == (0 : Int))) hp4)
  (K (.bool false) hp4))
  (K (.bool false) hp4))
  (K (.bool false) hp4)))
  (FCall P f_FQuotients #[.agg #[.bool t26a0, .slice t26a1A t26a1n t26a1c, .bool t26a2, .slice t26a3A t26a3n t26a3c]] hp3 (fun r5 hp5 => ∃ (t49A : OA) (t49n t49c : Nat), r5 = .slice t49A t49n t49c ∧ FCall P f_LKnown #[] hp5 (fun r6 hp6 => ∃ (t50 : Bool), r6 = .bool t50 ∧ Br t50 (Br (t16b == (0 : Int)) (Br (t21b == (0 : Int)) (FCall P f_NTexts #[.slice t49A t49n t49c] hp6 (fun r7 hp7 => ∃ (t62A : OA) (t62n t62c : Nat), r7 = .slice t62A t62n t62c ∧ FCall P f_GSameStrings #[.slice t16aA t16an t16ac, .slice t62A t62n t62c] hp7 (fun r8 hp8 => ∃ (t63 : Bool), r8 = .bool t63 ∧ Br t63 (FCall P f_FConvergents #[.slice t49A t49n t49c] hp8 (fun r9 hp9 => ∃ (t68A : OA) (t68n t68c : Nat), r9 = .slice t68A t68n t68c ∧ FCall P f_NTexts #[.slice t68A t68n t68c] hp9 (fun r10 hp10 => ∃ (t69A : OA) (t69n t69c : Nat), r10 = .slice t69A t69n t69c ∧ FCall P f_GSameStrings #[.slice t21aA t21an t21ac, .slice t69A t69n t69c] hp10 (fun r11 hp11 => ∃ (t70 : Bool), r11 = .bool t70 ∧ K (.bool t70) hp11))))
  (K (.bool false) hp8))))
  (K (.bool false) hp6))
  (K (.bool false) hp6))
  (K (.bool false) hp6))))))))
theorem LNearestQuotients_ok (q : ByteArray) (hvc : LNearestQuotients Tryz.prog q h K) : FCall Tryz.prog f_LNearestQuotients #[.string q] h K :=
  fn_sound Tryz.func6 (c := codeOf Tryz.f6) (by kernel_rfl) (rs := [.tmp 2]) (by kernel_rfl) (fa := { loops := [], cuts := [], orders := [] })
    (cfg := { n := 72, own := [7], lim := none, fns := [13, 15, 31, 34, 35, 36, 37, 38], wr := [] }) (args := [.string q]) (by kernel_rfl) (Bodies.cons Tryz.call13 (Bodies.cons Tryz.call15 (Bodies.cons Tryz.call31 (Bodies.cons Tryz.call34 (Bodies.cons Tryz.call35 (Bodies.cons Tryz.call36 (Bodies.cons Tryz.call37 (Bodies.cons Tryz.call38 Bodies.nil)))))))) (Eq.mp (by kernel_rfl : LNearestQuotients Tryz.prog q h K = _) hvc)
def GSameStrings (P : Program) (aA : OA) (an ac : Nat) (bA : OA) (bn bc : Nat) (h : Heap) (K : Value → Heap → Prop) : Prop :=
  Br ((an : Int) != (bn : Int)) (K (.bool false) h)
  (∃ (Invv : List Value → Heap → Prop) (muv : List Value → Heap → Nat), Invv [I (0 : Int)] h ∧
  ∀ (t13 : Int), ∀ hp, Invv [I t13] hp → Br (decide (t13 < (an : Int))) (∃ a1, aA = some a1 ∧ 0 ≤ t13 ∧ t13 < (an : Int) ∧ ∃ (t19 : ByteArray), Heap.cell? hp (Addr.add a1 ((t13).toNat * 1)) = some (.string t19) ∧ ∃ a2, bA = some a2 ∧ 0 ≤ t13 ∧ t13 < (bn : Int) ∧ ∃ (t23 : ByteArray), Heap.cell? hp (Addr.add a2 ((t13).toNat * 1)) = some (.string t23) ∧ Br (!(ByteArray.toList t19 == ByteArray.toList t23)) (K (.bool false) hp)
  (Invv [I (wi64 (t13 + (1 : Int)))] hp ∧ muv [I (wi64 (t13 + (1 : Int)))] hp < muv [I t13] hp))
  (K (.bool true) hp))
theorem GSameStrings_ok (aA : OA) (an ac : Nat) (bA : OA) (bn bc : Nat) (hvc : GSameStrings Tryz.prog aA an ac bA bn bc h K) : FCall Tryz.prog f_GSameStrings #[.slice aA an ac, .slice bA bn bc] h K :=
  fn_sound Tryz.func36 (c := codeOf Tryz.f36) (by kernel_rfl) (rs := [.tmp 4]) (by kernel_rfl) (fa := { loops := [(4, { slots := [13], owns := [], zs := [.int .i64 0], lim := { slots := [4, 5, 13, 14, 15, 16, 17, 18, 19, 20, 21, 22, 23, 24, 25], keys := [] } })], cuts := [], orders := [(6, ([0, 1, 2, 3, 4, 5, 6, 7, 8], [[], [], [0, 1], [0, 1, 2], [], [], [4, 5], [4, 5, 6], [0, 1, 2, 3, 4, 5, 6, 7]]))] })
    (cfg := { n := 26, own := [], lim := none, fns := [], wr := [] }) (args := [.slice aA an ac, .slice bA bn bc]) (by kernel_rfl) Bodies.nil (Eq.mp (by kernel_rfl : GSameStrings Tryz.prog aA an ac bA bn bc h K = _) hvc)
end Go.Proofs.YtgnclfejnndicaaGreatDoor
