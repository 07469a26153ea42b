/-
  Written by wip/tools/vcgen.py: what is asked of each function's body; each equation is checked by the kernel.
-/
import Derived.Test.YtlmdojkanhmioaaProg
import Derived.Test.YtlmdojkanhmioaaXLib
namespace Go.Proofs.Ytlmdojkanhmioaa
open Go
set_option maxRecDepth 100000
set_option linter.unusedVariables false

abbrev f_MValid : Nat := 17
abbrev f_MDegree : Nat := 20
abbrev f_MValidPair : Nat := 39
abbrev f_MCompare : Nat := 19
abbrev f_MOrder : Nat := 40
abbrev f_MMul : Nat := 28
abbrev f_MDiv : Nat := 30
abbrev f_MLcm : Nat := 32
abbrev f_MDivides : Nat := 34
abbrev f_MChoose : Nat := 36
abbrev f_MCount : Nat := 10
abbrev f_MAll : Nat := 13
abbrev f_MAppendDegree : Nat := 37
abbrev f_MIndex : Nat := 18
abbrev f_MParity : Nat := 26
abbrev f_MMul1 : Nat := 45
abbrev f_MDiv1 : Nat := 46
abbrev f_MLcm1 : Nat := 47
abbrev f_ROrder : Nat := 43
abbrev f_RValid : Nat := 23
abbrev f_RDegree : Nat := 24
abbrev f_RPair : Nat := 42
abbrev f_RCompare : Nat := 25
abbrev f_RMul : Nat := 29
abbrev f_RDivides : Nat := 35
abbrev f_RDiv : Nat := 31
abbrev f_RLcm : Nat := 33
abbrev f_RCount : Nat := 11
abbrev f_RExact : Nat := 48
abbrev f_RList : Nat := 38
abbrev f_RAll : Nat := 14
abbrev f_RIndex : Nat := 22
abbrev f_RCountOne : Nat := 41
abbrev f_RParity : Nat := 27
abbrev f_KInts : Nat := 21
abbrev f_KLists : Nat := 15
abbrev f_LAwake : Nat := 12
abbrev f_LLong : Nat := 16
abbrev f_LMonomialCount : Nat := 3
abbrev f_LMonomialAll : Nat := 4
abbrev f_LMonomialIndex : Nat := 5
abbrev f_LMonomialValid : Nat := 6
abbrev f_LMonomialOrder : Nat := 7
abbrev f_LMonomialArithmetic : Nat := 8
abbrev f_LMonomialLcm : Nat := 9
abbrev f_CmpInt : Nat := 49
abbrev f_MCombine : Nat := 44
abbrev f_IsNaNInt : Nat := 50
abbrev ty_tInts : Nat := 31
abbrev ty_tInts_e : Nat := 3
theorem tInts : SliceT Try.prog ty_tInts ty_tInts_e (I (0 : Int)) 1 8 := ⟨by kernel_rfl, by kernel_rfl, rfl, by decide⟩
theorem tInts_one : Try.prog.cellsOf ty_tInts_e = 1 ∧ (Try.prog.info? ty_tInts_e).isSome = true := ⟨by kernel_rfl, by kernel_rfl⟩
abbrev ty_tLists : Nat := 26
abbrev ty_tLists_e : Nat := 31
theorem tLists : SliceT Try.prog ty_tLists ty_tLists_e (.slice none 0 0) 1 24 := ⟨by kernel_rfl, by kernel_rfl, rfl, by decide⟩
theorem tLists_one : Try.prog.cellsOf ty_tLists_e = 1 ∧ (Try.prog.info? ty_tLists_e).isSome = true := ⟨by kernel_rfl, by kernel_rfl⟩

/-- what is asked of sosopt/monomial.Valid -/
def MValid (P : Program) (mA : Option Addr) (mn : Nat) (mc : Nat) (h : Heap) (K : Value → Heap → Prop) : Prop :=
  FCall P f_MDegree #[.slice mA mn mc] h (fun r hp => ∃ (t4 : Int), r = I t4 ∧ K (.bool (decide (t4 ≥ (0 : Int)))) hp)
theorem MValid_ok {h : Heap} {K : Value → Heap → Prop} (mA : Option Addr) (mn : Nat) (mc : Nat) (hvc : MValid Try.prog mA mn mc h K) : FCall Try.prog f_MValid #[.slice mA mn mc] h K :=
  fn_sound Try.func17 (c := codeOf Try.f17) (by kernel_rfl) (rs := [.tmp 2]) (by kernel_rfl) (fa := { loops := [], cuts := [], orders := [] })
    (cfg := { n := 6, own := [], lim := none, fns := [20] }) (args := [.slice mA mn mc]) (by kernel_rfl) (Bodies.cons Try.call20 Bodies.nil) (Eq.mp (by kernel_rfl : MValid Try.prog mA mn mc h K = _) hvc)

/-- what is asked of sosopt/monomial.Degree -/
def MDegree (P : Program) (mA : Option Addr) (mn : Nat) (mc : Nat) (h : Heap) (K : Value → Heap → Prop) : Prop :=
  Br (decide (((mn : Nat) : Int) > (6 : Int))) (K (I (-1 : Int)) h)
  (∃ (Invv : List Value → Heap → Prop) (muv : List Value → Heap → Nat), Invv [I (0 : Int), I (0 : Int)] h ∧
  ∀ (degree : Int) (t11 : Int), ∀ hp, Invv [I degree, I t11] hp → Br (decide (t11 < ((mn : Nat) : Int))) (∃ a, mA = some a ∧ 0 ≤ t11 ∧ t11 < (mn : Int) ∧ ∃ (t14 : Int), Heap.cell? hp (Addr.add a ((t11).toNat * 1)) = some (I t14) ∧ Br (decide (t14 < (0 : Int))) (K (I (-1 : Int)) hp)
  (Br (decide (t14 > (wi64 ((24 : Int) - degree)))) (K (I (-1 : Int)) hp)
  (Invv [I (wi64 (degree + t14)), I (wi64 (t11 + (1 : Int)))] hp ∧ muv [I (wi64 (degree + t14)), I (wi64 (t11 + (1 : Int)))] hp < muv [I degree, I t11] hp)))
  (K (I degree) hp))
theorem MDegree_ok {h : Heap} {K : Value → Heap → Prop} (mA : Option Addr) (mn : Nat) (mc : Nat) (hvc : MDegree Try.prog mA mn mc h K) : FCall Try.prog f_MDegree #[.slice mA mn mc] h K :=
  fn_sound Try.func20 (c := codeOf Try.f20) (by kernel_rfl) (rs := [.tmp 2]) (by kernel_rfl) (fa := { loops := [(5, { slots := [3, 11], owns := [], zs := [.int .i64 0, .int .i64 0], lim := { slots := [2, 3, 5, 11, 12, 13, 14, 15, 16, 17, 18, 19, 20, 21, 22, 23, 24, 25, 26], keys := [] } })], cuts := [], orders := [] })
    (cfg := { n := 28, own := [], lim := none, fns := [] }) (args := [.slice mA mn mc]) (by kernel_rfl) Bodies.nil (Eq.mp (by kernel_rfl : MDegree Try.prog mA mn mc h K = _) hvc)

/-- what is asked of sosopt/monomial.validPair -/
def MValidPair (P : Program) (aA : Option Addr) (an : Nat) (ac : Nat) (bA : Option Addr) (bn : Nat) (bc : Nat) (h : Heap) (K : Value → Heap → Prop) : Prop :=
  Br (((an : Nat) : Int) == ((bn : Nat) : Int)) (FCall P f_MValid #[.slice aA an ac] h (fun r hp => ∃ (t12 : Bool), r = .bool t12 ∧ Br t12 (FCall P f_MValid #[.slice bA bn bc] hp (fun r1 hp1 => ∃ (t16 : Bool), r1 = .bool t16 ∧ K (.bool t16) hp1))
  (K (.bool false) hp)))
  (K (.bool false) h)
theorem MValidPair_ok {h : Heap} {K : Value → Heap → Prop} (aA : Option Addr) (an : Nat) (ac : Nat) (bA : Option Addr) (bn : Nat) (bc : Nat) (hvc : MValidPair Try.prog aA an ac bA bn bc h K) : FCall Try.prog f_MValidPair #[.slice aA an ac, .slice bA bn bc] h K :=
  fn_sound Try.func39 (c := codeOf Try.f39) (by kernel_rfl) (rs := [.tmp 4]) (by kernel_rfl) (fa := { loops := [], cuts := [], orders := [] })
    (cfg := { n := 18, own := [], lim := none, fns := [17] }) (args := [.slice aA an ac, .slice bA bn bc]) (by kernel_rfl) (Bodies.cons Try.call17 Bodies.nil) (Eq.mp (by kernel_rfl : MValidPair Try.prog aA an ac bA bn bc h K = _) hvc)

/-- what is asked of sosopt/monomial.Compare -/
def MCompare (P : Program) (aA : Option Addr) (an : Nat) (ac : Nat) (bA : Option Addr) (bn : Nat) (bc : Nat) (h : Heap) (K : Value → Heap → Prop) : Prop :=
  FCall P f_MValidPair #[.slice aA an ac, .slice bA bn bc] h (fun r hp => ∃ (t7 : Bool), r = .bool t7 ∧ Br (!t7) (K (I (0 : Int)) hp)
  (FCall P f_MOrder #[.slice aA an ac, .slice bA bn bc] hp (fun r1 hp1 => ∃ (t11 : Int), r1 = I t11 ∧ K (I t11) hp1)))
theorem MCompare_ok {h : Heap} {K : Value → Heap → Prop} (aA : Option Addr) (an : Nat) (ac : Nat) (bA : Option Addr) (bn : Nat) (bc : Nat) (hvc : MCompare Try.prog aA an ac bA bn bc h K) : FCall Try.prog f_MCompare #[.slice aA an ac, .slice bA bn bc] h K :=
  fn_sound Try.func19 (c := codeOf Try.f19) (by kernel_rfl) (rs := [.tmp 4]) (by kernel_rfl) (fa := { loops := [], cuts := [], orders := [] })
    (cfg := { n := 12, own := [], lim := none, fns := [39, 40] }) (args := [.slice aA an ac, .slice bA bn bc]) (by kernel_rfl) (Bodies.cons Try.call39 (Bodies.cons Try.call40 Bodies.nil)) (Eq.mp (by kernel_rfl : MCompare Try.prog aA an ac bA bn bc h K = _) hvc)

/-- what is asked of sosopt/monomial.Order -/
def MOrder (P : Program) (aA : Option Addr) (an : Nat) (ac : Nat) (bA : Option Addr) (bn : Nat) (bc : Nat) (h : Heap) (K : Value → Heap → Prop) : Prop :=
  ∃ (Invv : List Value → Heap → Prop) (muv : List Value → Heap → Nat), Invv [I (0 : Int), I (0 : Int), I (0 : Int)] h ∧
  ∀ (degreeA : Int) (degreeB : Int) (t12 : Int), ∀ hp, Invv [I degreeA, I degreeB, I t12] hp → Br (decide (t12 < ((an : Nat) : Int))) (∃ a1, aA = some a1 ∧ 0 ≤ t12 ∧ t12 < (an : Int) ∧ ∃ (t16 : Int), Heap.cell? hp (Addr.add a1 ((t12).toNat * 1)) = some (I t16) ∧ ∃ a2, bA = some a2 ∧ 0 ≤ t12 ∧ t12 < (bn : Int) ∧ ∃ (t24 : Int), Heap.cell? hp (Addr.add a2 ((t12).toNat * 1)) = some (I t24) ∧ Invv [I (wi64 (degreeA + t16)), I (wi64 (degreeB + t24)), I (wi64 (t12 + (1 : Int)))] hp ∧ muv [I (wi64 (degreeA + t16)), I (wi64 (degreeB + t24)), I (wi64 (t12 + (1 : Int)))] hp < muv [I degreeA, I degreeB, I t12] hp)
  (Br (degreeA != degreeB) (FCall P f_CmpInt #[I degreeA, I degreeB] hp (fun r hp1 => ∃ (t32 : Int), r = I t32 ∧ K (I t32) hp1))
  (∃ (Invv1 : List Value → Heap → Prop) (muv1 : List Value → Heap → Nat), Invv1 [I (wi64 (((an : Nat) : Int) - (1 : Int)))] hp ∧
  ∀ (i : Int), ∀ hp2, Invv1 [I i] hp2 → Br (decide (i ≥ (0 : Int))) (∃ a3, aA = some a3 ∧ 0 ≤ i ∧ i < (an : Int) ∧ ∃ (t43 : Int), Heap.cell? hp2 (Addr.add a3 ((i).toNat * 1)) = some (I t43) ∧ ∃ a4, bA = some a4 ∧ 0 ≤ i ∧ i < (bn : Int) ∧ ∃ (t47 : Int), Heap.cell? hp2 (Addr.add a4 ((i).toNat * 1)) = some (I t47) ∧ Br (t43 != t47) (∃ a5, bA = some a5 ∧ 0 ≤ i ∧ i < (bn : Int) ∧ ∃ (t52 : Int), Heap.cell? hp2 (Addr.add a5 ((i).toNat * 1)) = some (I t52) ∧ ∃ a6, aA = some a6 ∧ 0 ≤ i ∧ i < (an : Int) ∧ ∃ (t56 : Int), Heap.cell? hp2 (Addr.add a6 ((i).toNat * 1)) = some (I t56) ∧ FCall P f_CmpInt #[I t52, I t56] hp2 (fun r1 hp3 => ∃ (t57 : Int), r1 = I t57 ∧ Heap.le hp2 hp3 ∧ K (I t57) hp3))
  (Invv1 [I (wi64 (i - (1 : Int)))] hp2 ∧ muv1 [I (wi64 (i - (1 : Int)))] hp2 < muv1 [I i] hp2))
  (K (I (0 : Int)) hp2)))
theorem MOrder_ok {h : Heap} {K : Value → Heap → Prop} (aA : Option Addr) (an : Nat) (ac : Nat) (bA : Option Addr) (bn : Nat) (bc : Nat) (hvc : MOrder Try.prog aA an ac bA bn bc h K) : FCall Try.prog f_MOrder #[.slice aA an ac, .slice bA bn bc] h K :=
  fn_sound Try.func40 (c := codeOf Try.f40) (by kernel_rfl) (rs := [.tmp 4]) (by kernel_rfl) (fa := { loops := [(3, { slots := [5, 6, 12], owns := [], zs := [.int .i64 0, .int .i64 0, .int .i64 0], lim := { slots := [5, 6, 7, 8, 12, 13, 14, 15, 16, 17, 18, 19, 20, 21, 22, 23, 24, 25, 26], keys := [] } }), (11, { slots := [9], owns := [], zs := [.int .i64 0], lim := { slots := [4, 9, 36, 37, 38, 39, 40, 41, 42, 43, 44, 45, 46, 47, 48, 49, 50, 51, 52, 53, 54, 55, 56, 57], keys := [] } })], cuts := [], orders := [(13, ([0, 1, 2, 3, 4, 5, 6, 7, 8], [[], [], [0, 1], [0, 1, 2], [], [], [4, 5], [4, 5, 6], [0, 1, 2, 3, 4, 5, 6, 7]])), (14, ([0, 1, 2, 3, 4, 5, 6, 7, 8, 9], [[], [], [0, 1], [0, 1, 2], [], [], [4, 5], [4, 5, 6], [0, 1, 2, 3, 4, 5, 6, 7], [0, 1, 2, 3, 4, 5, 6, 7, 8]]))] })
    (cfg := { n := 58, own := [], lim := none, fns := [49] }) (args := [.slice aA an ac, .slice bA bn bc]) (by kernel_rfl) (Bodies.cons Try.call49 Bodies.nil) (Eq.mp (by kernel_rfl : MOrder Try.prog aA an ac bA bn bc h K = _) hvc)

/-- what is asked of sosopt/monomial.Mul -/
def MMul (P : Program) (aA : Option Addr) (an : Nat) (ac : Nat) (bA : Option Addr) (bn : Nat) (bc : Nat) (h : Heap) (K : Value → Heap → Prop) : Prop :=
  FCall P f_MCombine #[.slice aA an ac, .slice bA bn bc, .func (.func 45) #[] #[]] h (fun r hp => ∃ (t8aA : Option Addr) (t8an : Nat) (t8ac : Nat) (t8b : Bool), r = .tuple #[.slice t8aA t8an t8ac, .bool t8b] ∧ K (.tuple #[.slice t8aA t8an t8ac, .bool t8b]) hp)
theorem MMul_ok {h : Heap} {K : Value → Heap → Prop} (aA : Option Addr) (an : Nat) (ac : Nat) (bA : Option Addr) (bn : Nat) (bc : Nat) (hvc : MMul Try.prog aA an ac bA bn bc h K) : FCall Try.prog f_MMul #[.slice aA an ac, .slice bA bn bc] h K :=
  fn_sound Try.func28 (c := codeOf Try.f28) (by kernel_rfl) (rs := [.tmp 4, .tmp 5]) (by kernel_rfl) (fa := { loops := [], cuts := [], orders := [] })
    (cfg := { n := 11, own := [], lim := none, fns := [44] }) (args := [.slice aA an ac, .slice bA bn bc]) (by kernel_rfl) (Bodies.cons Try.call44 Bodies.nil) (Eq.mp (by kernel_rfl : MMul Try.prog aA an ac bA bn bc h K = _) hvc)

/-- what is asked of sosopt/monomial.Div -/
def MDiv (P : Program) (aA : Option Addr) (an : Nat) (ac : Nat) (bA : Option Addr) (bn : Nat) (bc : Nat) (h : Heap) (K : Value → Heap → Prop) : Prop :=
  FCall P f_MCombine #[.slice aA an ac, .slice bA bn bc, .func (.func 46) #[] #[]] h (fun r hp => ∃ (t8aA : Option Addr) (t8an : Nat) (t8ac : Nat) (t8b : Bool), r = .tuple #[.slice t8aA t8an t8ac, .bool t8b] ∧ K (.tuple #[.slice t8aA t8an t8ac, .bool t8b]) hp)
theorem MDiv_ok {h : Heap} {K : Value → Heap → Prop} (aA : Option Addr) (an : Nat) (ac : Nat) (bA : Option Addr) (bn : Nat) (bc : Nat) (hvc : MDiv Try.prog aA an ac bA bn bc h K) : FCall Try.prog f_MDiv #[.slice aA an ac, .slice bA bn bc] h K :=
  fn_sound Try.func30 (c := codeOf Try.f30) (by kernel_rfl) (rs := [.tmp 4, .tmp 5]) (by kernel_rfl) (fa := { loops := [], cuts := [], orders := [] })
    (cfg := { n := 11, own := [], lim := none, fns := [44] }) (args := [.slice aA an ac, .slice bA bn bc]) (by kernel_rfl) (Bodies.cons Try.call44 Bodies.nil) (Eq.mp (by kernel_rfl : MDiv Try.prog aA an ac bA bn bc h K = _) hvc)

/-- what is asked of sosopt/monomial.Lcm -/
def MLcm (P : Program) (aA : Option Addr) (an : Nat) (ac : Nat) (bA : Option Addr) (bn : Nat) (bc : Nat) (h : Heap) (K : Value → Heap → Prop) : Prop :=
  FCall P f_MCombine #[.slice aA an ac, .slice bA bn bc, .func (.func 47) #[] #[]] h (fun r hp => ∃ (t8aA : Option Addr) (t8an : Nat) (t8ac : Nat) (t8b : Bool), r = .tuple #[.slice t8aA t8an t8ac, .bool t8b] ∧ K (.tuple #[.slice t8aA t8an t8ac, .bool t8b]) hp)
theorem MLcm_ok {h : Heap} {K : Value → Heap → Prop} (aA : Option Addr) (an : Nat) (ac : Nat) (bA : Option Addr) (bn : Nat) (bc : Nat) (hvc : MLcm Try.prog aA an ac bA bn bc h K) : FCall Try.prog f_MLcm #[.slice aA an ac, .slice bA bn bc] h K :=
  fn_sound Try.func32 (c := codeOf Try.f32) (by kernel_rfl) (rs := [.tmp 4, .tmp 5]) (by kernel_rfl) (fa := { loops := [], cuts := [], orders := [] })
    (cfg := { n := 11, own := [], lim := none, fns := [44] }) (args := [.slice aA an ac, .slice bA bn bc]) (by kernel_rfl) (Bodies.cons Try.call44 Bodies.nil) (Eq.mp (by kernel_rfl : MLcm Try.prog aA an ac bA bn bc h K = _) hvc)

/-- what is asked of sosopt/monomial.Divides -/
def MDivides (P : Program) (aA : Option Addr) (an : Nat) (ac : Nat) (bA : Option Addr) (bn : Nat) (bc : Nat) (h : Heap) (K : Value → Heap → Prop) : Prop :=
  FCall P f_MValidPair #[.slice aA an ac, .slice bA bn bc] h (fun r hp => ∃ (t9 : Bool), r = .bool t9 ∧ Br (!t9) (K (.bool false) hp)
  (∃ (Invv : List Value → Heap → Prop) (muv : List Value → Heap → Nat), Invv [I (0 : Int)] hp ∧
  ∀ (t13 : Int), ∀ hp1, Invv [I t13] hp1 → Br (decide (t13 < ((an : Nat) : Int))) (∃ a1, aA = some a1 ∧ 0 ≤ t13 ∧ t13 < (an : Int) ∧ ∃ (t17 : Int), Heap.cell? hp1 (Addr.add a1 ((t13).toNat * 1)) = some (I t17) ∧ ∃ a2, bA = some a2 ∧ 0 ≤ t13 ∧ t13 < (bn : Int) ∧ ∃ (t22 : Int), Heap.cell? hp1 (Addr.add a2 ((t13).toNat * 1)) = some (I t22) ∧ Br (decide (t17 > t22)) (K (.bool false) hp1)
  (Invv [I (wi64 (t13 + (1 : Int)))] hp1 ∧ muv [I (wi64 (t13 + (1 : Int)))] hp1 < muv [I t13] hp1))
  (K (.bool true) hp1)))
theorem MDivides_ok {h : Heap} {K : Value → Heap → Prop} (aA : Option Addr) (an : Nat) (ac : Nat) (bA : Option Addr) (bn : Nat) (bc : Nat) (hvc : MDivides Try.prog aA an ac bA bn bc h K) : FCall Try.prog f_MDivides #[.slice aA an ac, .slice bA bn bc] h K :=
  fn_sound Try.func34 (c := codeOf Try.f34) (by kernel_rfl) (rs := [.tmp 4]) (by kernel_rfl) (fa := { loops := [(4, { slots := [13], owns := [], zs := [.int .i64 0], lim := { slots := [4, 5, 6, 13, 14, 15, 16, 17, 18, 19, 20, 21, 22, 23, 24], keys := [] } })], cuts := [], orders := [] })
    (cfg := { n := 25, own := [], lim := none, fns := [39] }) (args := [.slice aA an ac, .slice bA bn bc]) (by kernel_rfl) (Bodies.cons Try.call39 Bodies.nil) (Eq.mp (by kernel_rfl : MDivides Try.prog aA an ac bA bn bc h K = _) hvc)

/-- what is asked of sosopt/monomial.choose -/
def MChoose (P : Program) (n : Int) (k : Int) (h : Heap) (K : Value → Heap → Prop) : Prop :=
  Br (decide (n < k)) (K (I (0 : Int)) h)
  (∃ (Invv : List Value → Heap → Prop) (muv : List Value → Heap → Nat), Invv [I (1 : Int), I (1 : Int)] h ∧
  ∀ (result : Int) (i : Int), ∀ hp, Invv [I result, I i] hp → Br (decide (i ≤ k)) (Br (decide (i = 0)) False
  (Invv [I (wi64 (Int.tdiv (wi64 (result * (wi64 ((wi64 (n - k)) + i)))) i)), I (wi64 (i + (1 : Int)))] hp ∧ muv [I (wi64 (Int.tdiv (wi64 (result * (wi64 ((wi64 (n - k)) + i)))) i)), I (wi64 (i + (1 : Int)))] hp < muv [I result, I i] hp))
  (K (I result) hp))
theorem MChoose_ok {h : Heap} {K : Value → Heap → Prop} (n : Int) (k : Int) (hvc : MChoose Try.prog n k h K) : FCall Try.prog f_MChoose #[I n, I k] h K :=
  fn_sound Try.func36 (c := codeOf Try.f36) (by kernel_rfl) (rs := [.tmp 4]) (by kernel_rfl) (fa := { loops := [(5, { slots := [5, 6], owns := [], zs := [.int .i64 0, .int .i64 0], lim := { slots := [5, 6, 10, 11, 12, 13, 14, 15, 16, 17, 18, 19, 20, 21, 22, 23], keys := [] } })], cuts := [], orders := [] })
    (cfg := { n := 25, own := [], lim := none, fns := [] }) (args := [I n, I k]) (by kernel_rfl) Bodies.nil (Eq.mp (by kernel_rfl : MChoose Try.prog n k h K = _) hvc)

/-- what is asked of sosopt/monomial.Count -/
def MCount (P : Program) (n : Int) (d : Int) (h : Heap) (K : Value → Heap → Prop) : Prop :=
  Br (decide (n < (0 : Int))) (K (.tuple #[I (0 : Int), .bool false]) h)
  (Br (decide (n > (6 : Int))) (K (.tuple #[I (0 : Int), .bool false]) h)
  (Br (decide (d < (0 : Int))) (K (.tuple #[I (0 : Int), .bool false]) h)
  (Br (decide (d > (24 : Int))) (K (.tuple #[I (0 : Int), .bool false]) h)
  (FCall P f_MChoose #[I (wi64 (n + d)), I n] h (fun r hp => ∃ (t24 : Int), r = I t24 ∧ K (.tuple #[I t24, .bool true]) hp)))))
theorem MCount_ok {h : Heap} {K : Value → Heap → Prop} (n : Int) (d : Int) (hvc : MCount Try.prog n d h K) : FCall Try.prog f_MCount #[I n, I d] h K :=
  fn_sound Try.func10 (c := codeOf Try.f10) (by kernel_rfl) (rs := [.tmp 4, .tmp 5]) (by kernel_rfl) (fa := { loops := [], cuts := [], orders := [] })
    (cfg := { n := 25, own := [], lim := none, fns := [36] }) (args := [I n, I d]) (by kernel_rfl) (Bodies.cons Try.call36 Bodies.nil) (Eq.mp (by kernel_rfl : MCount Try.prog n d h K = _) hvc)

/-- what is asked of sosopt/monomial.All -/
def MAll (P : Program) (n : Int) (d : Int) (h : Heap) (K : Value → Heap → Prop) : Prop :=
  FCall P f_MCount #[I n, I d] h (fun r hp => ∃ (t13a : Int) (t13b : Bool), r = .tuple #[I t13a, .bool t13b] ∧ Br (!t13b) (K (.tuple #[.slice none 0 0, I (3 : Int)]) hp)
  (Br (decide (t13a > (4096 : Int))) (K (.tuple #[.slice none 0 0, I (2 : Int)]) hp)
  (wpH P (Instr.makeSlice 26 (I (0 : Int)) (I t13a)) (fun v hp1 => ∃ (t21A : Option Addr) (t21n : Nat) (t21c : Nat), v = .slice t21A t21n t21c ∧ ∃ (Invv : List Value → Heap → Prop) (muv : List Value → Heap → Nat), Invv [.slice t21A t21n t21c, I (0 : Int)] hp1 ∧
  ∀ (resultA : Option Addr) (resultn : Nat) (resultc : Nat) (t24 : Int), ∀ hp2, Invv [.slice resultA resultn resultc, I t24] hp2 → Br (decide (t24 < (wi64 (d + (1 : Int))))) (FCall P f_MAppendDegree #[.slice resultA resultn resultc, I n, I t24, .slice none 0 0] hp2 (fun r1 hp3 => ∃ (t30A : Option Addr) (t30n : Nat) (t30c : Nat), r1 = .slice t30A t30n t30c ∧ Invv [.slice t30A t30n t30c, I (wi64 (t24 + (1 : Int)))] hp3 ∧ muv [.slice t30A t30n t30c, I (wi64 (t24 + (1 : Int)))] hp3 < muv [.slice resultA resultn resultc, I t24] hp2))
  (K (.tuple #[.slice resultA resultn resultc, I (0 : Int)]) hp2)) hp)))
theorem MAll_ok {h : Heap} {K : Value → Heap → Prop} (n : Int) (d : Int) (hvc : MAll Try.prog n d h K) : FCall Try.prog f_MAll #[I n, I d] h K :=
  fn_sound Try.func13 (c := codeOf Try.f13) (by kernel_rfl) (rs := [.tmp 4, .tmp 5]) (by kernel_rfl) (fa := { loops := [(8, { slots := [8, 24], owns := [], zs := [.slice none 0 0, .int .i64 0], lim := { slots := [8, 9, 24, 25, 26, 27, 28, 29, 30, 31], keys := [] } })], cuts := [], orders := [] })
    (cfg := { n := 33, own := [], lim := none, fns := [10, 37] }) (args := [I n, I d]) (by kernel_rfl) (Bodies.cons Try.call10 (Bodies.cons Try.call37 Bodies.nil)) (Eq.mp (by kernel_rfl : MAll Try.prog n d h K = _) hvc)

/-- what is asked of sosopt/monomial.appendDegree -/
def MAppendDegree (P : Program) (resultA : Option Addr) (resultn : Nat) (resultc : Nat) (n : Int) (degree : Int) (tailA : Option Addr) (tailn : Nat) (tailc : Nat) (h : Heap) (K : Value → Heap → Prop) : Prop :=
  Br (n == (0 : Int)) (Br (decide (degree > (0 : Int))) (K (.slice resultA resultn resultc) h)
  (wpH P (Instr.buildSlice 31 0 #[]) (fun v hp => ∃ (t16A : Option Addr) (t16n : Nat) (t16c : Nat), v = .slice t16A t16n t16c ∧ wpH P (Builtin.append_ #[31, 31] 31 #[.slice t16A t16n t16c, .slice tailA tailn tailc]) (fun v1 hp1 => ∃ (t18A : Option Addr) (t18n : Nat) (t18c : Nat), v1 = .slice t18A t18n t18c ∧ wpH P (Instr.buildSlice 26 1 #[(0, .slice t18A t18n t18c)]) (fun v2 hp2 => ∃ (t19A : Option Addr) (t19n : Nat) (t19c : Nat), v2 = .slice t19A t19n t19c ∧ wpH P (Builtin.append_ #[26, 26] 26 #[.slice resultA resultn resultc, .slice t19A t19n t19c]) (fun v3 hp3 => ∃ (t20A : Option Addr) (t20n : Nat) (t20c : Nat), v3 = .slice t20A t20n t20c ∧ K (.slice t20A t20n t20c) hp3) hp2) hp1) hp) h))
  (∃ (Invv : List Value → Heap → Prop) (muv : List Value → Heap → Nat), Invv [.slice resultA resultn resultc, I degree] h ∧
  ∀ (result1A : Option Addr) (result1n : Nat) (result1c : Nat) (last : Int), ∀ hp4, Invv [.slice result1A result1n result1c, I last] hp4 → Br (decide (last ≥ (0 : Int))) (wpH P (Instr.buildSlice 31 1 #[(0, I last)]) (fun v4 hp5 => ∃ (t33A : Option Addr) (t33n : Nat) (t33c : Nat), v4 = .slice t33A t33n t33c ∧ wpH P (Builtin.append_ #[31, 31] 31 #[.slice t33A t33n t33c, .slice tailA tailn tailc]) (fun v5 hp6 => ∃ (t35A : Option Addr) (t35n : Nat) (t35c : Nat), v5 = .slice t35A t35n t35c ∧ FCall P f_MAppendDegree #[.slice result1A result1n result1c, I (wi64 (n - (1 : Int))), I (wi64 (degree - last)), .slice t35A t35n t35c] hp6 (fun r hp7 => ∃ (t36A : Option Addr) (t36n : Nat) (t36c : Nat), r = .slice t36A t36n t36c ∧ Invv [.slice t36A t36n t36c, I (wi64 (last - (1 : Int)))] hp7 ∧ muv [.slice t36A t36n t36c, I (wi64 (last - (1 : Int)))] hp7 < muv [.slice result1A result1n result1c, I last] hp4)) hp5) hp4)
  (K (.slice result1A result1n result1c) hp4))
theorem MAppendDegree_ok {h : Heap} {K : Value → Heap → Prop} (resultA : Option Addr) (resultn : Nat) (resultc : Nat) (n : Int) (degree : Int) (tailA : Option Addr) (tailn : Nat) (tailc : Nat) (hvc : MAppendDegree Try.prog resultA resultn resultc n degree tailA tailn tailc h K) : FCall Try.prog f_MAppendDegree #[.slice resultA resultn resultc, I n, I degree, .slice tailA tailn tailc] h K :=
  fn_sound Try.func37 (c := codeOf Try.f37) (by kernel_rfl) (rs := [.tmp 8]) (by kernel_rfl) (fa := { loops := [(6, { slots := [0, 9], owns := [], zs := [.slice none 0 0, .int .i64 0], lim := { slots := [0, 9, 22, 23, 24, 25, 26, 27, 28, 29, 30, 31, 32, 33, 34, 35, 36], keys := [] } })], cuts := [], orders := [] })
    (cfg := { n := 38, own := [], lim := none, fns := [37] }) (args := [.slice resultA resultn resultc, I n, I degree, .slice tailA tailn tailc]) (by kernel_rfl) (Bodies.cons Try.call37 Bodies.nil) (Eq.mp (by kernel_rfl : MAppendDegree Try.prog resultA resultn resultc n degree tailA tailn tailc h K = _) hvc)

/-- what is asked of sosopt/monomial.Index -/
def MIndex (P : Program) (mA : Option Addr) (mn : Nat) (mc : Nat) (h : Heap) (K : Value → Heap → Prop) : Prop :=
  FCall P f_MDegree #[.slice mA mn mc] h (fun r hp => ∃ (t8 : Int), r = I t8 ∧ Br (decide (t8 < (0 : Int))) (K (.tuple #[I (0 : Int), .bool false]) hp)
  (FCall P f_MChoose #[I (wi64 ((wi64 (((mn : Nat) : Int) + t8)) - (1 : Int))), I ((mn : Nat) : Int)] hp (fun r1 hp1 => ∃ (t18 : Int), r1 = I t18 ∧ ∃ (Invv : List Value → Heap → Prop) (muv : List Value → Heap → Nat), Invv [I t8, I t18, I (wi64 (((mn : Nat) : Int) - (1 : Int)))] hp1 ∧
  ∀ (degree : Int) (index : Int) (i : Int), ∀ hp2, Invv [I degree, I index, I i] hp2 → Br (decide (i > (0 : Int))) (∃ a, mA = some a ∧ 0 ≤ i ∧ i < (mn : Int) ∧ ∃ (t30 : Int), Heap.cell? hp2 (Addr.add a ((i).toNat * 1)) = some (I t30) ∧ FCall P f_MChoose #[I (wi64 ((wi64 (i + (wi64 (degree - t30)))) - (1 : Int))), I i] hp2 (fun r2 hp3 => ∃ (t38 : Int), r2 = I t38 ∧ Invv [I (wi64 (degree - t30)), I (wi64 (index + t38)), I (wi64 (i - (1 : Int)))] hp3 ∧ muv [I (wi64 (degree - t30)), I (wi64 (index + t38)), I (wi64 (i - (1 : Int)))] hp3 < muv [I degree, I index, I i] hp2))
  (K (.tuple #[I index, .bool true]) hp2))))
theorem MIndex_ok {h : Heap} {K : Value → Heap → Prop} (mA : Option Addr) (mn : Nat) (mc : Nat) (hvc : MIndex Try.prog mA mn mc h K) : FCall Try.prog f_MIndex #[.slice mA mn mc] h K :=
  fn_sound Try.func18 (c := codeOf Try.f18) (by kernel_rfl) (rs := [.tmp 2, .tmp 3]) (by kernel_rfl) (fa := { loops := [(6, { slots := [4, 5, 6], owns := [], zs := [.int .i64 0, .int .i64 0, .int .i64 0], lim := { slots := [4, 5, 6, 22, 23, 24, 25, 26, 27, 28, 29, 30, 31, 32, 33, 34, 35, 36, 37, 38, 39], keys := [] } })], cuts := [], orders := [] })
    (cfg := { n := 41, own := [], lim := none, fns := [20, 36] }) (args := [.slice mA mn mc]) (by kernel_rfl) (Bodies.cons Try.call20 (Bodies.cons Try.call36 Bodies.nil)) (Eq.mp (by kernel_rfl : MIndex Try.prog mA mn mc h K = _) hvc)

/-- what is asked of sosopt/monomial.Parity -/
def MParity (P : Program) (mA : Option Addr) (mn : Nat) (mc : Nat) (h : Heap) (K : Value → Heap → Prop) : Prop :=
  FCall P f_MValid #[.slice mA mn mc] h (fun r hp => ∃ (t7 : Bool), r = .bool t7 ∧ Br (!t7) (K (.slice none 0 0) hp)
  (wpH P (Instr.makeSlice 31 (I ((mn : Nat) : Int)) (I ((mn : Nat) : Int))) (fun v hp1 => ∃ (t11A : Option Addr) (t11n : Nat) (t11c : Nat), v = .slice t11A t11n t11c ∧ ∃ (Invv : List Value → Heap → Prop) (muv : List Value → Heap → Nat), Invv [I (0 : Int)] hp1 ∧
  ∀ (t14 : Int), ∀ hp2, Invv [I t14] hp2 → Br (decide (t14 < ((mn : Nat) : Int))) (∃ a, mA = some a ∧ 0 ≤ t14 ∧ t14 < (mn : Int) ∧ ∃ (t18 : Int), Heap.cell? hp2 (Addr.add a ((t14).toNat * 1)) = some (I t18) ∧ ∃ a1, t11A = some a1 ∧ 0 ≤ t14 ∧ t14 < (t11n : Int) ∧ wpH P (Instr.storeAt 3 (.pointer (some (Addr.add a1 ((t14).toNat * 1)))) (I (Int.tmod t18 (2 : Int)))) (fun _ hp3 => Invv [I (wi64 (t14 + (1 : Int)))] hp3 ∧ muv [I (wi64 (t14 + (1 : Int)))] hp3 < muv [I t14] hp2) hp2)
  (K (.slice t11A t11n t11c) hp2)) hp))
theorem MParity_ok {h : Heap} {K : Value → Heap → Prop} (mA : Option Addr) (mn : Nat) (mc : Nat) (hvc : MParity Try.prog mA mn mc h K) : FCall Try.prog f_MParity #[.slice mA mn mc] h K :=
  fn_sound Try.func26 (c := codeOf Try.f26) (by kernel_rfl) (rs := [.tmp 2]) (by kernel_rfl) (fa := { loops := [(5, { slots := [14], owns := [], zs := [.int .i64 0], lim := { slots := [4, 5, 14, 15, 16, 17, 18, 19, 20, 21, 22, 23, 24], keys := [] } })], cuts := [], orders := [] })
    (cfg := { n := 26, own := [], lim := none, fns := [17] }) (args := [.slice mA mn mc]) (by kernel_rfl) (Bodies.cons Try.call17 Bodies.nil) (Eq.mp (by kernel_rfl : MParity Try.prog mA mn mc h K = _) hvc)

/-- what is asked of sosopt/monomial.Mul$1 -/
def MMul1 (P : Program) (x : Int) (y : Int) (h : Heap) (K : Value → Heap → Prop) : Prop :=
  K (I (wi64 (x + y))) h
theorem MMul1_ok {h : Heap} {K : Value → Heap → Prop} (x : Int) (y : Int) (hvc : MMul1 Try.prog x y h K) : FCall Try.prog f_MMul1 #[I x, I y] h K :=
  fn_sound Try.func45 (c := codeOf Try.f45) (by kernel_rfl) (rs := [.tmp 4]) (by kernel_rfl) (fa := { loops := [], cuts := [], orders := [] })
    (cfg := { n := 8, own := [], lim := none, fns := [] }) (args := [I x, I y]) (by kernel_rfl) Bodies.nil (Eq.mp (by kernel_rfl : MMul1 Try.prog x y h K = _) hvc)

/-- what is asked of sosopt/monomial.Div$1 -/
def MDiv1 (P : Program) (x : Int) (y : Int) (h : Heap) (K : Value → Heap → Prop) : Prop :=
  K (I (wi64 (x - y))) h
theorem MDiv1_ok {h : Heap} {K : Value → Heap → Prop} (x : Int) (y : Int) (hvc : MDiv1 Try.prog x y h K) : FCall Try.prog f_MDiv1 #[I x, I y] h K :=
  fn_sound Try.func46 (c := codeOf Try.f46) (by kernel_rfl) (rs := [.tmp 4]) (by kernel_rfl) (fa := { loops := [], cuts := [], orders := [] })
    (cfg := { n := 8, own := [], lim := none, fns := [] }) (args := [I x, I y]) (by kernel_rfl) Bodies.nil (Eq.mp (by kernel_rfl : MDiv1 Try.prog x y h K = _) hvc)

/-- what is asked of sosopt/monomial.Lcm$1 -/
def MLcm1 (P : Program) (x : Int) (y : Int) (h : Heap) (K : Value → Heap → Prop) : Prop :=
  K (I (if y > x then y else x)) h
theorem MLcm1_ok {h : Heap} {K : Value → Heap → Prop} (x : Int) (y : Int) (hvc : MLcm1 Try.prog x y h K) : FCall Try.prog f_MLcm1 #[I x, I y] h K :=
  fn_sound Try.func47 (c := codeOf Try.f47) (by kernel_rfl) (rs := [.tmp 4]) (by kernel_rfl) (fa := { loops := [], cuts := [], orders := [] })
    (cfg := { n := 8, own := [], lim := none, fns := [] }) (args := [I x, I y]) (by kernel_rfl) Bodies.nil (Eq.mp (by kernel_rfl : MLcm1 Try.prog x y h K = _) hvc)

/-- what is asked of sosopt/sosoptref05.Order -/
def ROrder (P : Program) (aA : Option Addr) (an : Nat) (ac : Nat) (bA : Option Addr) (bn : Nat) (bc : Nat) (h : Heap) (K : Value → Heap → Prop) : Prop :=
  ∃ (Invv : List Value → Heap → Prop) (muv : List Value → Heap → Nat), Invv [I (0 : Int), I (0 : Int), I (0 : Int)] h ∧
  ∀ (s : Int) (t : Int) (i : Int), ∀ hp, Invv [I s, I t, I i] hp → Br (decide (i < ((an : Nat) : Int))) (∃ a1, aA = some a1 ∧ 0 ≤ i ∧ i < (an : Int) ∧ ∃ (t19 : Int), Heap.cell? hp (Addr.add a1 ((i).toNat * 1)) = some (I t19) ∧ ∃ a2, bA = some a2 ∧ 0 ≤ i ∧ i < (bn : Int) ∧ ∃ (t25 : Int), Heap.cell? hp (Addr.add a2 ((i).toNat * 1)) = some (I t25) ∧ Invv [I (wi64 (s + t19)), I (wi64 (t + t25)), I (wi64 (i + (1 : Int)))] hp ∧ muv [I (wi64 (s + t19)), I (wi64 (t + t25)), I (wi64 (i + (1 : Int)))] hp < muv [I s, I t, I i] hp)
  (Br (s != t) (Br (decide (s < t)) (K (I (-1 : Int)) hp)
  (K (I (1 : Int)) hp))
  (∃ (Invv1 : List Value → Heap → Prop) (muv1 : List Value → Heap → Nat), Invv1 [I (wi64 (((an : Nat) : Int) - (1 : Int)))] hp ∧
  ∀ (i1 : Int), ∀ hp1, Invv1 [I i1] hp1 → Br (decide (i1 ≥ (0 : Int))) (∃ a3, aA = some a3 ∧ 0 ≤ i1 ∧ i1 < (an : Int) ∧ ∃ (t43 : Int), Heap.cell? hp1 (Addr.add a3 ((i1).toNat * 1)) = some (I t43) ∧ ∃ a4, bA = some a4 ∧ 0 ≤ i1 ∧ i1 < (bn : Int) ∧ ∃ (t47 : Int), Heap.cell? hp1 (Addr.add a4 ((i1).toNat * 1)) = some (I t47) ∧ Br (t43 != t47) (∃ a5, aA = some a5 ∧ 0 ≤ i1 ∧ i1 < (an : Int) ∧ ∃ (t52 : Int), Heap.cell? hp1 (Addr.add a5 ((i1).toNat * 1)) = some (I t52) ∧ ∃ a6, bA = some a6 ∧ 0 ≤ i1 ∧ i1 < (bn : Int) ∧ ∃ (t56 : Int), Heap.cell? hp1 (Addr.add a6 ((i1).toNat * 1)) = some (I t56) ∧ Br (decide (t52 > t56)) (K (I (-1 : Int)) hp1)
  (K (I (1 : Int)) hp1))
  (Invv1 [I (wi64 (i1 - (1 : Int)))] hp1 ∧ muv1 [I (wi64 (i1 - (1 : Int)))] hp1 < muv1 [I i1] hp1))
  (K (I (0 : Int)) hp1)))
theorem ROrder_ok {h : Heap} {K : Value → Heap → Prop} (aA : Option Addr) (an : Nat) (ac : Nat) (bA : Option Addr) (bn : Nat) (bc : Nat) (hvc : ROrder Try.prog aA an ac bA bn bc h K) : FCall Try.prog f_ROrder #[.slice aA an ac, .slice bA bn bc] h K :=
  fn_sound Try.func43 (c := codeOf Try.f43) (by kernel_rfl) (rs := [.tmp 4]) (by kernel_rfl) (fa := { loops := [(3, { slots := [5, 6, 7], owns := [], zs := [.int .i64 0, .int .i64 0, .int .i64 0], lim := { slots := [5, 6, 7, 9, 10, 11, 12, 13, 14, 15, 16, 17, 18, 19, 20, 21, 22, 23, 24, 25, 26], keys := [] } }), (11, { slots := [8], owns := [], zs := [.int .i64 0], lim := { slots := [4, 8, 36, 37, 38, 39, 40, 41, 42, 43, 44, 45, 46, 47, 48, 49, 50, 51, 52, 53, 54, 55, 56, 57], keys := [] } })], cuts := [], orders := [(5, ([0, 1, 2, 3, 4, 5, 6, 7, 8, 9, 10, 11, 12, 13], [[], [], [], [1, 2], [1, 2, 3], [0, 1, 2, 3, 4], [], [], [], [7, 8], [7, 8, 9], [6, 7, 8, 9, 10], [0, 1, 2, 3, 4, 5], [0, 1, 2, 3, 4, 5, 6, 7, 8, 9, 10, 11, 12]])), (13, ([0, 1, 2, 3, 4, 5, 6, 7, 8], [[], [], [0, 1], [0, 1, 2], [], [], [4, 5], [4, 5, 6], [0, 1, 2, 3, 4, 5, 6, 7]])), (14, ([0, 1, 2, 3, 4, 5, 6, 7, 8], [[], [], [0, 1], [0, 1, 2], [], [], [4, 5], [4, 5, 6], [0, 1, 2, 3, 4, 5, 6, 7]]))] })
    (cfg := { n := 58, own := [], lim := none, fns := [] }) (args := [.slice aA an ac, .slice bA bn bc]) (by kernel_rfl) Bodies.nil (Eq.mp (by kernel_rfl : ROrder Try.prog aA an ac bA bn bc h K = _) hvc)

/-- what is asked of sosopt/sosoptref05.Valid -/
def RValid (P : Program) (mA : Option Addr) (mn : Nat) (mc : Nat) (h : Heap) (K : Value → Heap → Prop) : Prop :=
  Br (decide (((mn : Nat) : Int) ≤ (6 : Int))) (FCall P f_RDegree #[.slice mA mn mc] h (fun r hp => ∃ (t8 : Int), r = I t8 ∧ K (.bool (decide (t8 ≥ (0 : Int)))) hp))
  (K (.bool false) h)
theorem RValid_ok {h : Heap} {K : Value → Heap → Prop} (mA : Option Addr) (mn : Nat) (mc : Nat) (hvc : RValid Try.prog mA mn mc h K) : FCall Try.prog f_RValid #[.slice mA mn mc] h K :=
  fn_sound Try.func23 (c := codeOf Try.f23) (by kernel_rfl) (rs := [.tmp 2]) (by kernel_rfl) (fa := { loops := [], cuts := [], orders := [] })
    (cfg := { n := 11, own := [], lim := none, fns := [24] }) (args := [.slice mA mn mc]) (by kernel_rfl) (Bodies.cons Try.call24 Bodies.nil) (Eq.mp (by kernel_rfl : RValid Try.prog mA mn mc h K = _) hvc)

/-- what is asked of sosopt/sosoptref05.Degree -/
def RDegree (P : Program) (mA : Option Addr) (mn : Nat) (mc : Nat) (h : Heap) (K : Value → Heap → Prop) : Prop :=
  Br (decide (((mn : Nat) : Int) > (6 : Int))) (K (I (-1 : Int)) h)
  (∃ (Invv : List Value → Heap → Prop) (muv : List Value → Heap → Nat), Invv [I (0 : Int), I (0 : Int)] h ∧
  ∀ (s : Int) (i : Int), ∀ hp, Invv [I s, I i] hp → Br (decide (i < ((mn : Nat) : Int))) (∃ a, mA = some a ∧ 0 ≤ i ∧ i < (mn : Int) ∧ ∃ (t17 : Int), Heap.cell? hp (Addr.add a ((i).toNat * 1)) = some (I t17) ∧ Br (decide (t17 < (0 : Int))) (K (I (-1 : Int)) hp)
  (∃ a1, mA = some a1 ∧ 0 ≤ i ∧ i < (mn : Int) ∧ ∃ (t23 : Int), Heap.cell? hp (Addr.add a1 ((i).toNat * 1)) = some (I t23) ∧ Br (decide (t23 > (wi64 ((24 : Int) - s)))) (K (I (-1 : Int)) hp)
  (∃ a2, mA = some a2 ∧ 0 ≤ i ∧ i < (mn : Int) ∧ ∃ (t32 : Int), Heap.cell? hp (Addr.add a2 ((i).toNat * 1)) = some (I t32) ∧ Invv [I (wi64 (s + t32)), I (wi64 (i + (1 : Int)))] hp ∧ muv [I (wi64 (s + t32)), I (wi64 (i + (1 : Int)))] hp < muv [I s, I i] hp)))
  (K (I s) hp))
theorem RDegree_ok {h : Heap} {K : Value → Heap → Prop} (mA : Option Addr) (mn : Nat) (mc : Nat) (hvc : RDegree Try.prog mA mn mc h K) : FCall Try.prog f_RDegree #[.slice mA mn mc] h K :=
  fn_sound Try.func24 (c := codeOf Try.f24) (by kernel_rfl) (rs := [.tmp 2]) (by kernel_rfl) (fa := { loops := [(5, { slots := [3, 4], owns := [], zs := [.int .i64 0, .int .i64 0], lim := { slots := [2, 3, 4, 8, 9, 10, 11, 12, 13, 14, 15, 16, 17, 18, 19, 20, 21, 22, 23, 24, 25, 26, 27, 28, 29, 30, 31, 32, 33], keys := [] } })], cuts := [], orders := [] })
    (cfg := { n := 35, own := [], lim := none, fns := [] }) (args := [.slice mA mn mc]) (by kernel_rfl) Bodies.nil (Eq.mp (by kernel_rfl : RDegree Try.prog mA mn mc h K = _) hvc)

/-- what is asked of sosopt/sosoptref05.pair -/
def RPair (P : Program) (aA : Option Addr) (an : Nat) (ac : Nat) (bA : Option Addr) (bn : Nat) (bc : Nat) (h : Heap) (K : Value → Heap → Prop) : Prop :=
  Br (((an : Nat) : Int) == ((bn : Nat) : Int)) (FCall P f_RValid #[.slice aA an ac] h (fun r hp => ∃ (t12 : Bool), r = .bool t12 ∧ Br t12 (FCall P f_RValid #[.slice bA bn bc] hp (fun r1 hp1 => ∃ (t16 : Bool), r1 = .bool t16 ∧ K (.bool t16) hp1))
  (K (.bool false) hp)))
  (K (.bool false) h)
theorem RPair_ok {h : Heap} {K : Value → Heap → Prop} (aA : Option Addr) (an : Nat) (ac : Nat) (bA : Option Addr) (bn : Nat) (bc : Nat) (hvc : RPair Try.prog aA an ac bA bn bc h K) : FCall Try.prog f_RPair #[.slice aA an ac, .slice bA bn bc] h K :=
  fn_sound Try.func42 (c := codeOf Try.f42) (by kernel_rfl) (rs := [.tmp 4]) (by kernel_rfl) (fa := { loops := [], cuts := [], orders := [] })
    (cfg := { n := 18, own := [], lim := none, fns := [23] }) (args := [.slice aA an ac, .slice bA bn bc]) (by kernel_rfl) (Bodies.cons Try.call23 Bodies.nil) (Eq.mp (by kernel_rfl : RPair Try.prog aA an ac bA bn bc h K = _) hvc)

/-- what is asked of sosopt/sosoptref05.Compare -/
def RCompare (P : Program) (aA : Option Addr) (an : Nat) (ac : Nat) (bA : Option Addr) (bn : Nat) (bc : Nat) (h : Heap) (K : Value → Heap → Prop) : Prop :=
  FCall P f_RPair #[.slice aA an ac, .slice bA bn bc] h (fun r hp => ∃ (t7 : Bool), r = .bool t7 ∧ Br (!t7) (K (I (0 : Int)) hp)
  (FCall P f_ROrder #[.slice aA an ac, .slice bA bn bc] hp (fun r1 hp1 => ∃ (t11 : Int), r1 = I t11 ∧ K (I t11) hp1)))
theorem RCompare_ok {h : Heap} {K : Value → Heap → Prop} (aA : Option Addr) (an : Nat) (ac : Nat) (bA : Option Addr) (bn : Nat) (bc : Nat) (hvc : RCompare Try.prog aA an ac bA bn bc h K) : FCall Try.prog f_RCompare #[.slice aA an ac, .slice bA bn bc] h K :=
  fn_sound Try.func25 (c := codeOf Try.f25) (by kernel_rfl) (rs := [.tmp 4]) (by kernel_rfl) (fa := { loops := [], cuts := [], orders := [] })
    (cfg := { n := 12, own := [], lim := none, fns := [42, 43] }) (args := [.slice aA an ac, .slice bA bn bc]) (by kernel_rfl) (Bodies.cons Try.call42 (Bodies.cons Try.call43 Bodies.nil)) (Eq.mp (by kernel_rfl : RCompare Try.prog aA an ac bA bn bc h K = _) hvc)

/-- what is asked of sosopt/sosoptref05.Mul -/
def RMul (P : Program) (aA : Option Addr) (an : Nat) (ac : Nat) (bA : Option Addr) (bn : Nat) (bc : Nat) (h : Heap) (K : Value → Heap → Prop) : Prop :=
  FCall P f_RPair #[.slice aA an ac, .slice bA bn bc] h (fun r hp => ∃ (t10 : Bool), r = .bool t10 ∧ Br (!t10) (K (.tuple #[.slice none 0 0, .bool false]) hp)
  (wpH P (Instr.makeSlice 31 (I ((an : Nat) : Int)) (I ((an : Nat) : Int))) (fun v hp1 => ∃ (t14A : Option Addr) (t14n : Nat) (t14c : Nat), v = .slice t14A t14n t14c ∧ ∃ (Invv : List Value → Heap → Prop) (muv : List Value → Heap → Nat), Invv [I (0 : Int)] hp1 ∧
  ∀ (i : Int), ∀ hp2, Invv [I i] hp2 → Br (decide (i < ((an : Nat) : Int))) (∃ a1, aA = some a1 ∧ 0 ≤ i ∧ i < (an : Int) ∧ ∃ (t26 : Int), Heap.cell? hp2 (Addr.add a1 ((i).toNat * 1)) = some (I t26) ∧ ∃ a2, bA = some a2 ∧ 0 ≤ i ∧ i < (bn : Int) ∧ ∃ (t30 : Int), Heap.cell? hp2 (Addr.add a2 ((i).toNat * 1)) = some (I t30) ∧ ∃ a3, t14A = some a3 ∧ 0 ≤ i ∧ i < (t14n : Int) ∧ wpH P (Instr.storeAt 3 (.pointer (some (Addr.add a3 ((i).toNat * 1)))) (I (wi64 (t26 + t30)))) (fun _ hp3 => Invv [I (wi64 (i + (1 : Int)))] hp3 ∧ muv [I (wi64 (i + (1 : Int)))] hp3 < muv [I i] hp2) hp2)
  (FCall P f_RValid #[.slice t14A t14n t14c] hp2 (fun r1 hp4 => ∃ (t34 : Bool), r1 = .bool t34 ∧ Br (!t34) (K (.tuple #[.slice none 0 0, .bool false]) hp4)
  (K (.tuple #[.slice t14A t14n t14c, .bool true]) hp4)))) hp))
theorem RMul_ok {h : Heap} {K : Value → Heap → Prop} (aA : Option Addr) (an : Nat) (ac : Nat) (bA : Option Addr) (bn : Nat) (bc : Nat) (hvc : RMul Try.prog aA an ac bA bn bc h K) : FCall Try.prog f_RMul #[.slice aA an ac, .slice bA bn bc] h K :=
  fn_sound Try.func29 (c := codeOf Try.f29) (by kernel_rfl) (rs := [.tmp 4, .tmp 5]) (by kernel_rfl) (fa := { loops := [(5, { slots := [7], owns := [], zs := [.int .i64 0], lim := { slots := [7, 15, 16, 17, 18, 19, 20, 21, 22, 23, 24, 25, 26, 27, 28, 29, 30, 31, 32], keys := [] } })], cuts := [], orders := [(7, ([0, 1, 2, 3, 4, 5, 6, 7, 8, 9, 10, 11, 12], [[], [], [], [], [2, 3], [2, 3, 4], [], [], [6, 7], [6, 7, 8], [2, 3, 4, 5, 6, 7, 8, 9], [0, 1, 2, 3, 4, 5, 6, 7, 8, 9, 10], [0, 1, 2, 3, 4, 5, 6, 7, 8, 9, 10, 11]]))] })
    (cfg := { n := 37, own := [], lim := none, fns := [23, 42] }) (args := [.slice aA an ac, .slice bA bn bc]) (by kernel_rfl) (Bodies.cons Try.call23 (Bodies.cons Try.call42 Bodies.nil)) (Eq.mp (by kernel_rfl : RMul Try.prog aA an ac bA bn bc h K = _) hvc)

/-- what is asked of sosopt/sosoptref05.Divides -/
def RDivides (P : Program) (aA : Option Addr) (an : Nat) (ac : Nat) (bA : Option Addr) (bn : Nat) (bc : Nat) (h : Heap) (K : Value → Heap → Prop) : Prop :=
  FCall P f_RPair #[.slice aA an ac, .slice bA bn bc] h (fun r hp => ∃ (t8 : Bool), r = .bool t8 ∧ Br (!t8) (K (.bool false) hp)
  (∃ (Invv : List Value → Heap → Prop) (muv : List Value → Heap → Nat), Invv [I (0 : Int)] hp ∧
  ∀ (i : Int), ∀ hp1, Invv [I i] hp1 → Br (decide (i < ((an : Nat) : Int))) (∃ a1, aA = some a1 ∧ 0 ≤ i ∧ i < (an : Int) ∧ ∃ (t19 : Int), Heap.cell? hp1 (Addr.add a1 ((i).toNat * 1)) = some (I t19) ∧ ∃ a2, bA = some a2 ∧ 0 ≤ i ∧ i < (bn : Int) ∧ ∃ (t23 : Int), Heap.cell? hp1 (Addr.add a2 ((i).toNat * 1)) = some (I t23) ∧ Br (decide (t19 > t23)) (K (.bool false) hp1)
  (Invv [I (wi64 (i + (1 : Int)))] hp1 ∧ muv [I (wi64 (i + (1 : Int)))] hp1 < muv [I i] hp1))
  (K (.bool true) hp1)))
theorem RDivides_ok {h : Heap} {K : Value → Heap → Prop} (aA : Option Addr) (an : Nat) (ac : Nat) (bA : Option Addr) (bn : Nat) (bc : Nat) (hvc : RDivides Try.prog aA an ac bA bn bc h K) : FCall Try.prog f_RDivides #[.slice aA an ac, .slice bA bn bc] h K :=
  fn_sound Try.func35 (c := codeOf Try.f35) (by kernel_rfl) (rs := [.tmp 4]) (by kernel_rfl) (fa := { loops := [(4, { slots := [5], owns := [], zs := [.int .i64 0], lim := { slots := [4, 5, 10, 11, 12, 13, 14, 15, 16, 17, 18, 19, 20, 21, 22, 23, 24], keys := [] } })], cuts := [], orders := [(6, ([0, 1, 2, 3, 4, 5, 6, 7, 8], [[], [], [0, 1], [0, 1, 2], [], [], [4, 5], [4, 5, 6], [0, 1, 2, 3, 4, 5, 6, 7]]))] })
    (cfg := { n := 25, own := [], lim := none, fns := [42] }) (args := [.slice aA an ac, .slice bA bn bc]) (by kernel_rfl) (Bodies.cons Try.call42 Bodies.nil) (Eq.mp (by kernel_rfl : RDivides Try.prog aA an ac bA bn bc h K = _) hvc)

/-- what is asked of sosopt/sosoptref05.Div -/
def RDiv (P : Program) (aA : Option Addr) (an : Nat) (ac : Nat) (bA : Option Addr) (bn : Nat) (bc : Nat) (h : Heap) (K : Value → Heap → Prop) : Prop :=
  FCall P f_RDivides #[.slice bA bn bc, .slice aA an ac] h (fun r hp => ∃ (t10 : Bool), r = .bool t10 ∧ Br (!t10) (K (.tuple #[.slice none 0 0, .bool false]) hp)
  (wpH P (Instr.makeSlice 31 (I ((an : Nat) : Int)) (I ((an : Nat) : Int))) (fun v hp1 => ∃ (t14A : Option Addr) (t14n : Nat) (t14c : Nat), v = .slice t14A t14n t14c ∧ ∃ (Invv : List Value → Heap → Prop) (muv : List Value → Heap → Nat), Invv [I (0 : Int)] hp1 ∧
  ∀ (i : Int), ∀ hp2, Invv [I i] hp2 → Br (decide (i < ((an : Nat) : Int))) (∃ a1, aA = some a1 ∧ 0 ≤ i ∧ i < (an : Int) ∧ ∃ (t26 : Int), Heap.cell? hp2 (Addr.add a1 ((i).toNat * 1)) = some (I t26) ∧ ∃ a2, bA = some a2 ∧ 0 ≤ i ∧ i < (bn : Int) ∧ ∃ (t30 : Int), Heap.cell? hp2 (Addr.add a2 ((i).toNat * 1)) = some (I t30) ∧ ∃ a3, t14A = some a3 ∧ 0 ≤ i ∧ i < (t14n : Int) ∧ wpH P (Instr.storeAt 3 (.pointer (some (Addr.add a3 ((i).toNat * 1)))) (I (wi64 (t26 - t30)))) (fun _ hp3 => Invv [I (wi64 (i + (1 : Int)))] hp3 ∧ muv [I (wi64 (i + (1 : Int)))] hp3 < muv [I i] hp2) hp2)
  (K (.tuple #[.slice t14A t14n t14c, .bool true]) hp2)) hp))
theorem RDiv_ok {h : Heap} {K : Value → Heap → Prop} (aA : Option Addr) (an : Nat) (ac : Nat) (bA : Option Addr) (bn : Nat) (bc : Nat) (hvc : RDiv Try.prog aA an ac bA bn bc h K) : FCall Try.prog f_RDiv #[.slice aA an ac, .slice bA bn bc] h K :=
  fn_sound Try.func31 (c := codeOf Try.f31) (by kernel_rfl) (rs := [.tmp 4, .tmp 5]) (by kernel_rfl) (fa := { loops := [(5, { slots := [7], owns := [], zs := [.int .i64 0], lim := { slots := [7, 15, 16, 17, 18, 19, 20, 21, 22, 23, 24, 25, 26, 27, 28, 29, 30, 31, 32], keys := [] } })], cuts := [], orders := [(7, ([0, 1, 2, 3, 4, 5, 6, 7, 8, 9, 10, 11, 12], [[], [], [], [], [2, 3], [2, 3, 4], [], [], [6, 7], [6, 7, 8], [2, 3, 4, 5, 6, 7, 8, 9], [0, 1, 2, 3, 4, 5, 6, 7, 8, 9, 10], [0, 1, 2, 3, 4, 5, 6, 7, 8, 9, 10, 11]]))] })
    (cfg := { n := 34, own := [], lim := none, fns := [35] }) (args := [.slice aA an ac, .slice bA bn bc]) (by kernel_rfl) (Bodies.cons Try.call35 Bodies.nil) (Eq.mp (by kernel_rfl : RDiv Try.prog aA an ac bA bn bc h K = _) hvc)

/-- what is asked of sosopt/sosoptref05.Lcm -/
def RLcm (P : Program) (aA : Option Addr) (an : Nat) (ac : Nat) (bA : Option Addr) (bn : Nat) (bc : Nat) (h : Heap) (K : Value → Heap → Prop) : Prop :=
  FCall P f_RPair #[.slice aA an ac, .slice bA bn bc] h (fun r hp => ∃ (t10 : Bool), r = .bool t10 ∧ Br (!t10) (K (.tuple #[.slice none 0 0, .bool false]) hp)
  (wpH P (Instr.makeSlice 31 (I ((an : Nat) : Int)) (I ((an : Nat) : Int))) (fun v hp1 => ∃ (t14A : Option Addr) (t14n : Nat) (t14c : Nat), v = .slice t14A t14n t14c ∧ ∃ (Invv : List Value → Heap → Prop) (muv : List Value → Heap → Nat), Invv [I (0 : Int)] hp1 ∧
  ∀ (i : Int), ∀ hp2, Invv [I i] hp2 → Br (decide (i < ((an : Nat) : Int))) (∃ a1, aA = some a1 ∧ 0 ≤ i ∧ i < (an : Int) ∧ ∃ (t26 : Int), Heap.cell? hp2 (Addr.add a1 ((i).toNat * 1)) = some (I t26) ∧ ∃ a2, bA = some a2 ∧ 0 ≤ i ∧ i < (bn : Int) ∧ ∃ (t30 : Int), Heap.cell? hp2 (Addr.add a2 ((i).toNat * 1)) = some (I t30) ∧ ∃ a3, t14A = some a3 ∧ 0 ≤ i ∧ i < (t14n : Int) ∧ wpH P (Instr.storeAt 3 (.pointer (some (Addr.add a3 ((i).toNat * 1)))) (I (if t30 > t26 then t30 else t26))) (fun _ hp3 => Invv [I (wi64 (i + (1 : Int)))] hp3 ∧ muv [I (wi64 (i + (1 : Int)))] hp3 < muv [I i] hp2) hp2)
  (FCall P f_RValid #[.slice t14A t14n t14c] hp2 (fun r1 hp4 => ∃ (t34 : Bool), r1 = .bool t34 ∧ Br (!t34) (K (.tuple #[.slice none 0 0, .bool false]) hp4)
  (K (.tuple #[.slice t14A t14n t14c, .bool true]) hp4)))) hp))
theorem RLcm_ok {h : Heap} {K : Value → Heap → Prop} (aA : Option Addr) (an : Nat) (ac : Nat) (bA : Option Addr) (bn : Nat) (bc : Nat) (hvc : RLcm Try.prog aA an ac bA bn bc h K) : FCall Try.prog f_RLcm #[.slice aA an ac, .slice bA bn bc] h K :=
  fn_sound Try.func33 (c := codeOf Try.f33) (by kernel_rfl) (rs := [.tmp 4, .tmp 5]) (by kernel_rfl) (fa := { loops := [(5, { slots := [7], owns := [], zs := [.int .i64 0], lim := { slots := [7, 15, 16, 17, 18, 19, 20, 21, 22, 23, 24, 25, 26, 27, 28, 29, 30, 31, 32], keys := [] } })], cuts := [], orders := [(7, ([0, 1, 2, 3, 4, 5, 6, 7, 8, 9, 10, 11, 12], [[], [], [], [], [2, 3], [2, 3, 4], [], [], [6, 7], [6, 7, 8], [2, 3, 4, 5, 6, 7, 8, 9], [0, 1, 2, 3, 4, 5, 6, 7, 8, 9, 10], [0, 1, 2, 3, 4, 5, 6, 7, 8, 9, 10, 11]]))] })
    (cfg := { n := 37, own := [], lim := none, fns := [23, 42] }) (args := [.slice aA an ac, .slice bA bn bc]) (by kernel_rfl) (Bodies.cons Try.call23 (Bodies.cons Try.call42 Bodies.nil)) (Eq.mp (by kernel_rfl : RLcm Try.prog aA an ac bA bn bc h K = _) hvc)

/-- what is asked of sosopt/sosoptref05.Count -/
def RCount (P : Program) (n : Int) (d : Int) (h : Heap) (K : Value → Heap → Prop) : Prop :=
  Br (decide (n < (0 : Int))) (K (.tuple #[I (0 : Int), .bool false]) h)
  (Br (decide (n > (6 : Int))) (K (.tuple #[I (0 : Int), .bool false]) h)
  (Br (decide (d < (0 : Int))) (K (.tuple #[I (0 : Int), .bool false]) h)
  (Br (decide (d > (24 : Int))) (K (.tuple #[I (0 : Int), .bool false]) h)
  (∃ (Invv : List Value → Heap → Prop) (muv : List Value → Heap → Nat), Invv [I (1 : Int), I (1 : Int)] h ∧
  ∀ (c : Int) (i : Int), ∀ hp, Invv [I c, I i] hp → Br (decide (i ≤ n)) (Br (decide (i = 0)) False
  (Invv [I (wi64 (Int.tdiv (wi64 (c * (wi64 (d + i)))) i)), I (wi64 (i + (1 : Int)))] hp ∧ muv [I (wi64 (Int.tdiv (wi64 (c * (wi64 (d + i)))) i)), I (wi64 (i + (1 : Int)))] hp < muv [I c, I i] hp))
  (K (.tuple #[I c, .bool true]) hp)))))
theorem RCount_ok {h : Heap} {K : Value → Heap → Prop} (n : Int) (d : Int) (hvc : RCount Try.prog n d h K) : FCall Try.prog f_RCount #[I n, I d] h K :=
  fn_sound Try.func11 (c := codeOf Try.f11) (by kernel_rfl) (rs := [.tmp 4, .tmp 5]) (by kernel_rfl) (fa := { loops := [(5, { slots := [6, 7], owns := [], zs := [.int .i64 0, .int .i64 0], lim := { slots := [6, 7, 22, 23, 24, 25, 26, 27, 28, 29, 30, 31, 32, 33], keys := [] } })], cuts := [], orders := [] })
    (cfg := { n := 35, own := [], lim := none, fns := [] }) (args := [I n, I d]) (by kernel_rfl) Bodies.nil (Eq.mp (by kernel_rfl : RCount Try.prog n d h K = _) hvc)

/-- what is asked of sosopt/sosoptref05.exact -/
def RExact (P : Program) (outA : Option Addr) (outn : Nat) (outc : Nat) (n : Int) (d : Int) (h : Heap) (K : Value → Heap → Prop) : Prop :=
  Br (n == (0 : Int)) (Br (d == (0 : Int)) (wpH P (Instr.buildSlice 26 1 #[(0, .slice none 0 0)]) (fun v hp => ∃ (t15A : Option Addr) (t15n : Nat) (t15c : Nat), v = .slice t15A t15n t15c ∧ wpH P (Builtin.append_ #[26, 26] 26 #[.slice outA outn outc, .slice t15A t15n t15c]) (fun v1 hp1 => ∃ (t16A : Option Addr) (t16n : Nat) (t16c : Nat), v1 = .slice t16A t16n t16c ∧ K (.slice t16A t16n t16c) hp1) hp) h)
  (K (.slice outA outn outc) h))
  (Br (n == (1 : Int)) (wpH P (Instr.buildSlice 31 1 #[(0, I d)]) (fun v2 hp2 => ∃ (t22A : Option Addr) (t22n : Nat) (t22c : Nat), v2 = .slice t22A t22n t22c ∧ wpH P (Instr.buildSlice 26 1 #[(0, .slice t22A t22n t22c)]) (fun v3 hp3 => ∃ (t23A : Option Addr) (t23n : Nat) (t23c : Nat), v3 = .slice t23A t23n t23c ∧ wpH P (Builtin.append_ #[26, 26] 26 #[.slice outA outn outc, .slice t23A t23n t23c]) (fun v4 hp4 => ∃ (t24A : Option Addr) (t24n : Nat) (t24c : Nat), v4 = .slice t24A t24n t24c ∧ K (.slice t24A t24n t24c) hp4) hp3) hp2) h)
  (∃ (Invv : List Value → Heap → Prop) (muv : List Value → Heap → Nat), Invv [.slice outA outn outc, I d] h ∧
  ∀ (out1A : Option Addr) (out1n : Nat) (out1c : Nat) (last : Int), ∀ hp5, Invv [.slice out1A out1n out1c, I last] hp5 → Br (decide (last ≥ (0 : Int))) (FCall P f_RExact #[.slice none 0 0, I (wi64 (n - (1 : Int))), I (wi64 (d - last))] hp5 (fun r hp6 => ∃ (t35A : Option Addr) (t35n : Nat) (t35c : Nat), r = .slice t35A t35n t35c ∧ ∃ (Invv1 : List Value → Heap → Prop) (muv1 : List Value → Heap → Nat), Invv1 [.slice out1A out1n out1c, I (0 : Int)] hp6 ∧
  ∀ (out2A : Option Addr) (out2n : Nat) (out2c : Nat) (i : Int), ∀ hp7, Invv1 [.slice out2A out2n out2c, I i] hp7 → Br (decide (i < ((t35n : Nat) : Int))) (wpH P (Instr.buildSlice 31 0 #[]) (fun v5 hp8 => ∃ (t43A : Option Addr) (t43n : Nat) (t43c : Nat), v5 = .slice t43A t43n t43c ∧ ∃ a, t35A = some a ∧ 0 ≤ i ∧ i < (t35n : Int) ∧ ∃ (t47A : Option Addr) (t47n : Nat) (t47c : Nat), Heap.cell? hp8 (Addr.add a ((i).toNat * 1)) = some (.slice t47A t47n t47c) ∧ wpH P (Builtin.append_ #[31, 31] 31 #[.slice t43A t43n t43c, .slice t47A t47n t47c]) (fun v6 hp9 => ∃ (t48A : Option Addr) (t48n : Nat) (t48c : Nat), v6 = .slice t48A t48n t48c ∧ wpH P (Instr.buildSlice 31 1 #[(0, I last)]) (fun v7 hp10 => ∃ (t50A : Option Addr) (t50n : Nat) (t50c : Nat), v7 = .slice t50A t50n t50c ∧ wpH P (Builtin.append_ #[31, 31] 31 #[.slice t48A t48n t48c, .slice t50A t50n t50c]) (fun v8 hp11 => ∃ (t51A : Option Addr) (t51n : Nat) (t51c : Nat), v8 = .slice t51A t51n t51c ∧ wpH P (Instr.buildSlice 26 1 #[(0, .slice t51A t51n t51c)]) (fun v9 hp12 => ∃ (t52A : Option Addr) (t52n : Nat) (t52c : Nat), v9 = .slice t52A t52n t52c ∧ wpH P (Builtin.append_ #[26, 26] 26 #[.slice out2A out2n out2c, .slice t52A t52n t52c]) (fun v10 hp13 => ∃ (t53A : Option Addr) (t53n : Nat) (t53c : Nat), v10 = .slice t53A t53n t53c ∧ Invv1 [.slice t53A t53n t53c, I (wi64 (i + (1 : Int)))] hp13 ∧ muv1 [.slice t53A t53n t53c, I (wi64 (i + (1 : Int)))] hp13 < muv1 [.slice out2A out2n out2c, I i] hp7) hp12) hp11) hp10) hp9) hp8) hp7)
  (Invv [.slice out2A out2n out2c, I (wi64 (last - (1 : Int)))] hp7 ∧ muv [.slice out2A out2n out2c, I (wi64 (last - (1 : Int)))] hp7 < muv [.slice out1A out1n out1c, I last] hp5)))
  (K (.slice out1A out1n out1c) hp5)))
theorem RExact_ok {h : Heap} {K : Value → Heap → Prop} (outA : Option Addr) (outn : Nat) (outc : Nat) (n : Int) (d : Int) (hvc : RExact Try.prog outA outn outc n d h K) : FCall Try.prog f_RExact #[.slice outA outn outc, I n, I d] h K :=
  fn_sound Try.func48 (c := codeOf Try.f48) (by kernel_rfl) (rs := [.tmp 6]) (by kernel_rfl) (fa := { loops := [(8, { slots := [0, 7], owns := [], zs := [.slice none 0 0, .int .i64 0], lim := { slots := [0, 7, 8, 9, 26, 27, 28, 29, 30, 31, 32, 33, 34, 35, 36, 37, 38, 39, 40, 41, 42, 43, 44, 45, 46, 47, 48, 49, 50, 51, 52, 53], keys := [] } }), (12, { slots := [0, 9], owns := [], zs := [.slice none 0 0, .int .i64 0], lim := { slots := [0, 9, 36, 37, 38, 39, 40, 41, 42, 43, 44, 45, 46, 47, 48, 49, 50, 51, 52, 53], keys := [] } })], cuts := [], orders := [] })
    (cfg := { n := 55, own := [], lim := none, fns := [48] }) (args := [.slice outA outn outc, I n, I d]) (by kernel_rfl) (Bodies.cons Try.call48 Bodies.nil) (Eq.mp (by kernel_rfl : RExact Try.prog outA outn outc n d h K = _) hvc)

/-- what is asked of sosopt/sosoptref05.List -/
def RList (P : Program) (n : Int) (d : Int) (h : Heap) (K : Value → Heap → Prop) : Prop :=
  ∃ (Invv : List Value → Heap → Prop) (muv : List Value → Heap → Nat), Invv [.slice none 0 0, I (0 : Int)] h ∧
  ∀ (outA : Option Addr) (outn : Nat) (outc : Nat) (k : Int), ∀ hp, Invv [.slice outA outn outc, I k] hp → Br (decide (k ≤ d)) (FCall P f_RExact #[.slice outA outn outc, I n, I k] hp (fun r hp1 => ∃ (t15A : Option Addr) (t15n : Nat) (t15c : Nat), r = .slice t15A t15n t15c ∧ Invv [.slice t15A t15n t15c, I (wi64 (k + (1 : Int)))] hp1 ∧ muv [.slice t15A t15n t15c, I (wi64 (k + (1 : Int)))] hp1 < muv [.slice outA outn outc, I k] hp))
  (K (.slice outA outn outc) hp)
theorem RList_ok {h : Heap} {K : Value → Heap → Prop} (n : Int) (d : Int) (hvc : RList Try.prog n d h K) : FCall Try.prog f_RList #[I n, I d] h K :=
  fn_sound Try.func38 (c := codeOf Try.f38) (by kernel_rfl) (rs := [.tmp 4]) (by kernel_rfl) (fa := { loops := [(3, { slots := [5, 6], owns := [], zs := [.slice none 0 0, .int .i64 0], lim := { slots := [5, 6, 7, 8, 9, 10, 11, 12, 13, 14, 15], keys := [] } })], cuts := [], orders := [] })
    (cfg := { n := 17, own := [], lim := none, fns := [48] }) (args := [I n, I d]) (by kernel_rfl) (Bodies.cons Try.call48 Bodies.nil) (Eq.mp (by kernel_rfl : RList Try.prog n d h K = _) hvc)

/-- what is asked of sosopt/sosoptref05.All -/
def RAll (P : Program) (n : Int) (d : Int) (h : Heap) (K : Value → Heap → Prop) : Prop :=
  FCall P f_RCount #[I n, I d] h (fun r hp => ∃ (t11a : Int) (t11b : Bool), r = .tuple #[I t11a, .bool t11b] ∧ Br (!t11b) (K (.tuple #[.slice none 0 0, I (3 : Int)]) hp)
  (Br (decide (t11a > (4096 : Int))) (K (.tuple #[.slice none 0 0, I (2 : Int)]) hp)
  (FCall P f_RList #[I n, I d] hp (fun r1 hp1 => ∃ (t20A : Option Addr) (t20n : Nat) (t20c : Nat), r1 = .slice t20A t20n t20c ∧ K (.tuple #[.slice t20A t20n t20c, I (0 : Int)]) hp1))))
theorem RAll_ok {h : Heap} {K : Value → Heap → Prop} (n : Int) (d : Int) (hvc : RAll Try.prog n d h K) : FCall Try.prog f_RAll #[I n, I d] h K :=
  fn_sound Try.func14 (c := codeOf Try.f14) (by kernel_rfl) (rs := [.tmp 4, .tmp 5]) (by kernel_rfl) (fa := { loops := [], cuts := [], orders := [] })
    (cfg := { n := 21, own := [], lim := none, fns := [11, 38] }) (args := [I n, I d]) (by kernel_rfl) (Bodies.cons Try.call11 (Bodies.cons Try.call38 Bodies.nil)) (Eq.mp (by kernel_rfl : RAll Try.prog n d h K = _) hvc)

/-- what is asked of sosopt/sosoptref05.Index -/
def RIndex (P : Program) (mA : Option Addr) (mn : Nat) (mc : Nat) (h : Heap) (K : Value → Heap → Prop) : Prop :=
  FCall P f_RValid #[.slice mA mn mc] h (fun r hp => ∃ (t9 : Bool), r = .bool t9 ∧ Br (!t9) (K (.tuple #[I (0 : Int), .bool false]) hp)
  (FCall P f_RDegree #[.slice mA mn mc] hp (fun r1 hp1 => ∃ (t12 : Int), r1 = I t12 ∧ Br (decide (t12 > (0 : Int))) (FCall P f_RCount #[I ((mn : Nat) : Int), I (wi64 (t12 - (1 : Int)))] hp1 (fun r2 hp2 => ∃ (t20a : Int) (t20b : Bool), r2 = .tuple #[I t20a, .bool t20b] ∧ ∃ (Invv : List Value → Heap → Prop) (muv : List Value → Heap → Nat), Invv [I t12, I t20a, I ((mn : Nat) : Int)] hp2 ∧
  ∀ (d : Int) (out : Int) (n : Int), ∀ hp3, Invv [I d, I out, I n] hp3 → Br (decide (n > (1 : Int))) (∃ a, mA = some a ∧ 0 ≤ wi64 (n - (1 : Int)) ∧ wi64 (n - (1 : Int)) < (mn : Int) ∧ ∃ (t33 : Int), Heap.cell? hp3 (Addr.add a ((wi64 (n - (1 : Int))).toNat * 1)) = some (I t33) ∧ ∃ (Invv1 : List Value → Heap → Prop) (muv1 : List Value → Heap → Nat), Invv1 [I out, I (wi64 (t33 + (1 : Int)))] hp3 ∧
  ∀ (out1 : Int) (e : Int), ∀ hp4, Invv1 [I out1, I e] hp4 → Br (decide (e ≤ d)) (FCall P f_RCountOne #[I (wi64 (n - (1 : Int))), I (wi64 (d - e))] hp4 (fun r3 hp5 => ∃ (t46 : Int), r3 = I t46 ∧ Invv1 [I (wi64 (out1 + t46)), I (wi64 (e + (1 : Int)))] hp5 ∧ muv1 [I (wi64 (out1 + t46)), I (wi64 (e + (1 : Int)))] hp5 < muv1 [I out1, I e] hp4))
  (∃ a1, mA = some a1 ∧ 0 ≤ wi64 (n - (1 : Int)) ∧ wi64 (n - (1 : Int)) < (mn : Int) ∧ ∃ (t53 : Int), Heap.cell? hp4 (Addr.add a1 ((wi64 (n - (1 : Int))).toNat * 1)) = some (I t53) ∧ Invv [I (wi64 (d - t53)), I out1, I (wi64 (n - (1 : Int)))] hp4 ∧ muv [I (wi64 (d - t53)), I out1, I (wi64 (n - (1 : Int)))] hp4 < muv [I d, I out, I n] hp3))
  (K (.tuple #[I out, .bool true]) hp3)))
  (∃ (Invv2 : List Value → Heap → Prop) (muv2 : List Value → Heap → Nat), Invv2 [I t12, I (0 : Int), I ((mn : Nat) : Int)] hp1 ∧
  ∀ (d1 : Int) (out2 : Int) (n1 : Int), ∀ hp6, Invv2 [I d1, I out2, I n1] hp6 → Br (decide (n1 > (1 : Int))) (∃ a2, mA = some a2 ∧ 0 ≤ wi64 (n1 - (1 : Int)) ∧ wi64 (n1 - (1 : Int)) < (mn : Int) ∧ ∃ (t331 : Int), Heap.cell? hp6 (Addr.add a2 ((wi64 (n1 - (1 : Int))).toNat * 1)) = some (I t331) ∧ ∃ (Invv3 : List Value → Heap → Prop) (muv3 : List Value → Heap → Nat), Invv3 [I out2, I (wi64 (t331 + (1 : Int)))] hp6 ∧
  ∀ (out3 : Int) (e1 : Int), ∀ hp7, Invv3 [I out3, I e1] hp7 → Br (decide (e1 ≤ d1)) (FCall P f_RCountOne #[I (wi64 (n1 - (1 : Int))), I (wi64 (d1 - e1))] hp7 (fun r4 hp8 => ∃ (t461 : Int), r4 = I t461 ∧ Invv3 [I (wi64 (out3 + t461)), I (wi64 (e1 + (1 : Int)))] hp8 ∧ muv3 [I (wi64 (out3 + t461)), I (wi64 (e1 + (1 : Int)))] hp8 < muv3 [I out3, I e1] hp7))
  (∃ a3, mA = some a3 ∧ 0 ≤ wi64 (n1 - (1 : Int)) ∧ wi64 (n1 - (1 : Int)) < (mn : Int) ∧ ∃ (t531 : Int), Heap.cell? hp7 (Addr.add a3 ((wi64 (n1 - (1 : Int))).toNat * 1)) = some (I t531) ∧ Invv2 [I (wi64 (d1 - t531)), I out3, I (wi64 (n1 - (1 : Int)))] hp7 ∧ muv2 [I (wi64 (d1 - t531)), I out3, I (wi64 (n1 - (1 : Int)))] hp7 < muv2 [I d1, I out2, I n1] hp6))
  (K (.tuple #[I out2, .bool true]) hp6)))))
theorem RIndex_ok {h : Heap} {K : Value → Heap → Prop} (mA : Option Addr) (mn : Nat) (mc : Nat) (hvc : RIndex Try.prog mA mn mc h K) : FCall Try.prog f_RIndex #[.slice mA mn mc] h K :=
  fn_sound Try.func22 (c := codeOf Try.f22) (by kernel_rfl) (rs := [.tmp 2, .tmp 3]) (by kernel_rfl) (fa := { loops := [(8, { slots := [4, 5, 6], owns := [], zs := [.int .i64 0, .int .i64 0, .int .i64 0], lim := { slots := [4, 5, 6, 7, 25, 26, 27, 28, 29, 30, 31, 32, 33, 34, 35, 36, 37, 38, 39, 40, 41, 42, 43, 44, 45, 46, 47, 48, 49, 50, 51, 52, 53, 54], keys := [] } }), (11, { slots := [5, 7], owns := [], zs := [.int .i64 0, .int .i64 0], lim := { slots := [5, 7, 35, 36, 37, 38, 39, 40, 41, 42, 43, 44, 45, 46, 47], keys := [] } })], cuts := [], orders := [] })
    (cfg := { n := 56, own := [], lim := none, fns := [11, 23, 24, 41] }) (args := [.slice mA mn mc]) (by kernel_rfl) (Bodies.cons Try.call11 (Bodies.cons Try.call23 (Bodies.cons Try.call24 (Bodies.cons Try.call41 Bodies.nil)))) (Eq.mp (by kernel_rfl : RIndex Try.prog mA mn mc h K = _) hvc)

/-- what is asked of sosopt/sosoptref05.count -/
def RCountOne (P : Program) (n : Int) (d : Int) (h : Heap) (K : Value → Heap → Prop) : Prop :=
  FCall P f_RCount #[I (wi64 (n - (1 : Int))), I d] h (fun r hp => ∃ (t11a : Int) (t11b : Bool), r = .tuple #[I t11a, .bool t11b] ∧ K (I t11a) hp)
theorem RCountOne_ok {h : Heap} {K : Value → Heap → Prop} (n : Int) (d : Int) (hvc : RCountOne Try.prog n d h K) : FCall Try.prog f_RCountOne #[I n, I d] h K :=
  fn_sound Try.func41 (c := codeOf Try.f41) (by kernel_rfl) (rs := [.tmp 4]) (by kernel_rfl) (fa := { loops := [], cuts := [], orders := [] })
    (cfg := { n := 15, own := [], lim := none, fns := [11] }) (args := [I n, I d]) (by kernel_rfl) (Bodies.cons Try.call11 Bodies.nil) (Eq.mp (by kernel_rfl : RCountOne Try.prog n d h K = _) hvc)

/-- what is asked of sosopt/sosoptref05.Parity -/
def RParity (P : Program) (mA : Option Addr) (mn : Nat) (mc : Nat) (h : Heap) (K : Value → Heap → Prop) : Prop :=
  FCall P f_RValid #[.slice mA mn mc] h (fun r hp => ∃ (t6 : Bool), r = .bool t6 ∧ Br (!t6) (K (.slice none 0 0) hp)
  (∃ (Invv : List Value → Heap → Prop) (muv : List Value → Heap → Nat), Invv [.slice none 0 0, I (0 : Int)] hp ∧
  ∀ (outA : Option Addr) (outn : Nat) (outc : Nat) (i : Int), ∀ hp1, Invv [.slice outA outn outc, I i] hp1 → Br (decide (i < ((mn : Nat) : Int))) (∃ a, mA = some a ∧ 0 ≤ i ∧ i < (mn : Int) ∧ ∃ (t18 : Int), Heap.cell? hp1 (Addr.add a ((i).toNat * 1)) = some (I t18) ∧ wpH P (Instr.buildSlice 31 1 #[(0, I (Int.tmod t18 (2 : Int)))]) (fun v hp2 => ∃ (t20A : Option Addr) (t20n : Nat) (t20c : Nat), v = .slice t20A t20n t20c ∧ wpH P (Builtin.append_ #[31, 31] 31 #[.slice outA outn outc, .slice t20A t20n t20c]) (fun v1 hp3 => ∃ (t21A : Option Addr) (t21n : Nat) (t21c : Nat), v1 = .slice t21A t21n t21c ∧ Invv [.slice t21A t21n t21c, I (wi64 (i + (1 : Int)))] hp3 ∧ muv [.slice t21A t21n t21c, I (wi64 (i + (1 : Int)))] hp3 < muv [.slice outA outn outc, I i] hp1) hp2) hp1)
  (K (.slice outA outn outc) hp1)))
theorem RParity_ok {h : Heap} {K : Value → Heap → Prop} (mA : Option Addr) (mn : Nat) (mc : Nat) (hvc : RParity Try.prog mA mn mc h K) : FCall Try.prog f_RParity #[.slice mA mn mc] h K :=
  fn_sound Try.func27 (c := codeOf Try.f27) (by kernel_rfl) (rs := [.tmp 2]) (by kernel_rfl) (fa := { loops := [(5, { slots := [3, 4], owns := [], zs := [.slice none 0 0, .int .i64 0], lim := { slots := [3, 4, 8, 9, 10, 11, 12, 13, 14, 15, 16, 17, 18, 19, 20, 21], keys := [] } })], cuts := [], orders := [] })
    (cfg := { n := 23, own := [], lim := none, fns := [23] }) (args := [.slice mA mn mc]) (by kernel_rfl) (Bodies.cons Try.call23 Bodies.nil) (Eq.mp (by kernel_rfl : RParity Try.prog mA mn mc h K = _) hvc)

/-- what is asked of sosopt/sosoptkeep.Ints -/
def KInts (P : Program) (aA : Option Addr) (an : Nat) (ac : Nat) (bA : Option Addr) (bn : Nat) (bc : Nat) (h : Heap) (K : Value → Heap → Prop) : Prop :=
  Br (((an : Nat) : Int) != ((bn : Nat) : Int)) (K (.bool false) h)
  (∃ (Invv : List Value → Heap → Prop) (muv : List Value → Heap → Nat), Invv [I (0 : Int)] h ∧
  ∀ (i : Int), ∀ hp, Invv [I i] hp → Br (decide (i < ((an : Nat) : Int))) (∃ a1, aA = some a1 ∧ 0 ≤ i ∧ i < (an : Int) ∧ ∃ (t20 : Int), Heap.cell? hp (Addr.add a1 ((i).toNat * 1)) = some (I t20) ∧ ∃ a2, bA = some a2 ∧ 0 ≤ i ∧ i < (bn : Int) ∧ ∃ (t24 : Int), Heap.cell? hp (Addr.add a2 ((i).toNat * 1)) = some (I t24) ∧ Br (t20 != t24) (K (.bool false) hp)
  (Invv [I (wi64 (i + (1 : Int)))] hp ∧ muv [I (wi64 (i + (1 : Int)))] hp < muv [I i] hp))
  (K (.bool true) hp))
theorem KInts_ok {h : Heap} {K : Value → Heap → Prop} (aA : Option Addr) (an : Nat) (ac : Nat) (bA : Option Addr) (bn : Nat) (bc : Nat) (hvc : KInts Try.prog aA an ac bA bn bc h K) : FCall Try.prog f_KInts #[.slice aA an ac, .slice bA bn bc] h K :=
  fn_sound Try.func21 (c := codeOf Try.f21) (by kernel_rfl) (rs := [.tmp 4]) (by kernel_rfl) (fa := { loops := [(4, { slots := [5], owns := [], zs := [.int .i64 0], lim := { slots := [4, 5, 11, 12, 13, 14, 15, 16, 17, 18, 19, 20, 21, 22, 23, 24, 25], keys := [] } })], cuts := [], orders := [(6, ([0, 1, 2, 3, 4, 5, 6, 7, 8], [[], [], [0, 1], [0, 1, 2], [], [], [4, 5], [4, 5, 6], [0, 1, 2, 3, 4, 5, 6, 7]]))] })
    (cfg := { n := 26, own := [], lim := none, fns := [] }) (args := [.slice aA an ac, .slice bA bn bc]) (by kernel_rfl) Bodies.nil (Eq.mp (by kernel_rfl : KInts Try.prog aA an ac bA bn bc h K = _) hvc)

/-- what is asked of sosopt/sosoptkeep.Lists -/
def KLists (P : Program) (aA : Option Addr) (an : Nat) (ac : Nat) (bA : Option Addr) (bn : Nat) (bc : Nat) (h : Heap) (K : Value → Heap → Prop) : Prop :=
  Br (((an : Nat) : Int) != ((bn : Nat) : Int)) (K (.bool false) h)
  (∃ (Invv : List Value → Heap → Prop) (muv : List Value → Heap → Nat), Invv [I (0 : Int)] h ∧
  ∀ (i : Int), ∀ hp, Invv [I i] hp → Br (decide (i < ((an : Nat) : Int))) (∃ a1, aA = some a1 ∧ 0 ≤ i ∧ i < (an : Int) ∧ ∃ (t20A : Option Addr) (t20n : Nat) (t20c : Nat), Heap.cell? hp (Addr.add a1 ((i).toNat * 1)) = some (.slice t20A t20n t20c) ∧ ∃ a2, bA = some a2 ∧ 0 ≤ i ∧ i < (bn : Int) ∧ ∃ (t24A : Option Addr) (t24n : Nat) (t24c : Nat), Heap.cell? hp (Addr.add a2 ((i).toNat * 1)) = some (.slice t24A t24n t24c) ∧ FCall P f_KInts #[.slice t20A t20n t20c, .slice t24A t24n t24c] hp (fun r hp1 => ∃ (t25 : Bool), r = .bool t25 ∧ Heap.le hp hp1 ∧ Br (!t25) (K (.bool false) hp1)
  (Invv [I (wi64 (i + (1 : Int)))] hp1 ∧ muv [I (wi64 (i + (1 : Int)))] hp1 < muv [I i] hp)))
  (K (.bool true) hp))
theorem KLists_ok {h : Heap} {K : Value → Heap → Prop} (aA : Option Addr) (an : Nat) (ac : Nat) (bA : Option Addr) (bn : Nat) (bc : Nat) (hvc : KLists Try.prog aA an ac bA bn bc h K) : FCall Try.prog f_KLists #[.slice aA an ac, .slice bA bn bc] h K :=
  fn_sound Try.func15 (c := codeOf Try.f15) (by kernel_rfl) (rs := [.tmp 4]) (by kernel_rfl) (fa := { loops := [(4, { slots := [5], owns := [], zs := [.int .i64 0], lim := { slots := [4, 5, 11, 12, 13, 14, 15, 16, 17, 18, 19, 20, 21, 22, 23, 24, 25, 26], keys := [] } })], cuts := [], orders := [(6, ([0, 1, 2, 3, 4, 5, 6, 7, 8, 9], [[], [], [0, 1], [0, 1, 2], [], [], [4, 5], [4, 5, 6], [0, 1, 2, 3, 4, 5, 6, 7], [0, 1, 2, 3, 4, 5, 6, 7, 8]]))] })
    (cfg := { n := 27, own := [], lim := none, fns := [21] }) (args := [.slice aA an ac, .slice bA bn bc]) (by kernel_rfl) (Bodies.cons Try.call21 Bodies.nil) (Eq.mp (by kernel_rfl : KLists Try.prog aA an ac bA bn bc h K = _) hvc)

/-- what is asked of sosopt/sosoptlaw05.awake -/
def LAwake (P : Program)  (h : Heap) (K : Value → Heap → Prop) : Prop :=
  FCall P f_MAll #[I (2 : Int), I (2 : Int)] h (fun r hp => ∃ (t6aA : Option Addr) (t6an : Nat) (t6ac : Nat) (t6b : Int), r = .tuple #[.slice t6aA t6an t6ac, I t6b] ∧ wpH P (Instr.buildSlice 31 2 #[(0, I (1 : Int)), (1, I (1 : Int))]) (fun v hp1 => ∃ (t10A : Option Addr) (t10n : Nat) (t10c : Nat), v = .slice t10A t10n t10c ∧ FCall P f_MIndex #[.slice t10A t10n t10c] hp1 (fun r1 hp2 => ∃ (t11a : Int) (t11b : Bool), r1 = .tuple #[I t11a, .bool t11b] ∧ Br (t6b == (0 : Int)) (Br (((t6an : Nat) : Int) == (6 : Int)) (∃ a, t6aA = some a ∧ 0 ≤ (3 : Int) ∧ (3 : Int) < (t6an : Int) ∧ ∃ (t24A : Option Addr) (t24n : Nat) (t24c : Nat), Heap.cell? hp2 (Addr.add a (((3 : Int)).toNat * 1)) = some (.slice t24A t24n t24c) ∧ wpH P (Instr.buildSlice 31 2 #[(0, I (0 : Int)), (1, I (2 : Int))]) (fun v1 hp3 => ∃ (t25A : Option Addr) (t25n : Nat) (t25c : Nat), v1 = .slice t25A t25n t25c ∧ FCall P f_KInts #[.slice t24A t24n t24c, .slice t25A t25n t25c] hp3 (fun r2 hp4 => ∃ (t26 : Bool), r2 = .bool t26 ∧ Br t26 (Br (t11a == (4 : Int)) (Br t11b (wpH P (Instr.buildSlice 31 2 #[(0, I (1 : Int)), (1, I (0 : Int))]) (fun v2 hp5 => ∃ (t36A : Option Addr) (t36n : Nat) (t36c : Nat), v2 = .slice t36A t36n t36c ∧ wpH P (Instr.buildSlice 31 2 #[(0, I (0 : Int)), (1, I (1 : Int))]) (fun v3 hp6 => ∃ (t37A : Option Addr) (t37n : Nat) (t37c : Nat), v3 = .slice t37A t37n t37c ∧ FCall P f_MCompare #[.slice t36A t36n t36c, .slice t37A t37n t37c] hp6 (fun r3 hp7 => ∃ (t38 : Int), r3 = I t38 ∧ K (.bool (t38 == (1 : Int))) hp7)) hp5) hp4)
  (K (.bool false) hp4))
  (K (.bool false) hp4))
  (K (.bool false) hp4))) hp2)
  (K (.bool false) hp2))
  (K (.bool false) hp2))) hp)
theorem LAwake_ok {h : Heap} {K : Value → Heap → Prop}  (hvc : LAwake Try.prog  h K) : FCall Try.prog f_LAwake #[] h K :=
  fn_sound Try.func12 (c := codeOf Try.f12) (by kernel_rfl) (rs := [.tmp 0]) (by kernel_rfl) (fa := { loops := [], cuts := [], orders := [] })
    (cfg := { n := 41, own := [], lim := none, fns := [13, 18, 19, 21] }) (args := []) (by kernel_rfl) (Bodies.cons Try.call13 (Bodies.cons Try.call18 (Bodies.cons Try.call19 (Bodies.cons Try.call21 Bodies.nil)))) (Eq.mp (by kernel_rfl : LAwake Try.prog  h K = _) hvc)

/-- what is asked of sosopt/sosoptlaw05.long -/
def LLong (P : Program) (lA : Option Addr) (ln : Nat) (lc : Nat) (h : Heap) (K : Value → Heap → Prop) : Prop :=
  ∃ (Invv : List Value → Heap → Prop) (muv : List Value → Heap → Nat), Invv [I (0 : Int)] h ∧
  ∀ (i : Int), ∀ hp, Invv [I i] hp → Br (decide (i < ((ln : Nat) : Int))) (∃ a, lA = some a ∧ 0 ≤ i ∧ i < (ln : Int) ∧ ∃ (t13A : Option Addr) (t13n : Nat) (t13c : Nat), Heap.cell? hp (Addr.add a ((i).toNat * 1)) = some (.slice t13A t13n t13c) ∧ Br (decide (((t13n : Nat) : Int) > (20 : Int))) (K (.bool true) hp)
  (Invv [I (wi64 (i + (1 : Int)))] hp ∧ muv [I (wi64 (i + (1 : Int)))] hp < muv [I i] hp))
  (K (.bool false) hp)
theorem LLong_ok {h : Heap} {K : Value → Heap → Prop} (lA : Option Addr) (ln : Nat) (lc : Nat) (hvc : LLong Try.prog lA ln lc h K) : FCall Try.prog f_LLong #[.slice lA ln lc] h K :=
  fn_sound Try.func16 (c := codeOf Try.f16) (by kernel_rfl) (rs := [.tmp 2]) (by kernel_rfl) (fa := { loops := [(2, { slots := [3], owns := [], zs := [.int .i64 0], lim := { slots := [2, 3, 4, 5, 6, 7, 8, 9, 10, 11, 12, 13, 14, 15], keys := [] } })], cuts := [], orders := [] })
    (cfg := { n := 16, own := [], lim := none, fns := [] }) (args := [.slice lA ln lc]) (by kernel_rfl) Bodies.nil (Eq.mp (by kernel_rfl : LLong Try.prog lA ln lc h K = _) hvc)

/-- what is asked of sosopt/sosoptlaw05.MonomialCount -/
def LMonomialCount (P : Program) (n : Int) (d : Int) (h : Heap) (K : Value → Heap → Prop) : Prop :=
  FCall P f_MCount #[I n, I d] h (fun r hp => ∃ (t12a : Int) (t12b : Bool), r = .tuple #[I t12a, .bool t12b] ∧ FCall P f_RCount #[I n, I d] hp (fun r1 hp1 => ∃ (t18a : Int) (t18b : Bool), r1 = .tuple #[I t18a, .bool t18b] ∧ Br (t12a == t18a) (Br (t12b == t18b) (FCall P f_LAwake #[] hp1 (fun r2 hp2 => ∃ (t30 : Bool), r2 = .bool t30 ∧ K (.bool t30) hp2))
  (K (.bool false) hp1))
  (K (.bool false) hp1)))
theorem LMonomialCount_ok {h : Heap} {K : Value → Heap → Prop} (n : Int) (d : Int) (hvc : LMonomialCount Try.prog n d h K) : FCall Try.prog f_LMonomialCount #[I n, I d] h K :=
  fn_sound Try.func3 (c := codeOf Try.f3) (by kernel_rfl) (rs := [.tmp 4]) (by kernel_rfl) (fa := { loops := [], cuts := [], orders := [] })
    (cfg := { n := 32, own := [], lim := none, fns := [10, 11, 12] }) (args := [I n, I d]) (by kernel_rfl) (Bodies.cons Try.call10 (Bodies.cons Try.call11 (Bodies.cons Try.call12 Bodies.nil))) (Eq.mp (by kernel_rfl : LMonomialCount Try.prog n d h K = _) hvc)

/-- what is asked of sosopt/sosoptlaw05.MonomialAll -/
def LMonomialAll (P : Program) (n : Int) (d : Int) (h : Heap) (K : Value → Heap → Prop) : Prop :=
  FCall P f_RCount #[I n, I d] h (fun r hp => ∃ (t14a : Int) (t14b : Bool), r = .tuple #[I t14a, .bool t14b] ∧ Br t14b (Br (decide (t14a > (500 : Int))) (Br (decide (t14a ≤ (4096 : Int))) (FCall P f_LAwake #[] hp (fun r1 hp1 => ∃ (t26 : Bool), r1 = .bool t26 ∧ K (.bool t26) hp1))
  (FCall P f_MAll #[I n, I d] hp (fun r2 hp2 => ∃ (t30aA : Option Addr) (t30an : Nat) (t30ac : Nat) (t30b : Int), r2 = .tuple #[.slice t30aA t30an t30ac, I t30b] ∧ FCall P f_RAll #[I n, I d] hp2 (fun r3 hp3 => ∃ (t36aA : Option Addr) (t36an : Nat) (t36ac : Nat) (t36b : Int), r3 = .tuple #[.slice t36aA t36an t36ac, I t36b] ∧ FCall P f_KLists #[.slice t30aA t30an t30ac, .slice t36aA t36an t36ac] hp3 (fun r4 hp4 => ∃ (t41 : Bool), r4 = .bool t41 ∧ Br t41 (Br (t30b == t36b) (FCall P f_LAwake #[] hp4 (fun r5 hp5 => ∃ (t48 : Bool), r5 = .bool t48 ∧ K (.bool t48) hp5))
  (K (.bool false) hp4))
  (K (.bool false) hp4))))))
  (FCall P f_MAll #[I n, I d] hp (fun r6 hp6 => ∃ (t30a1A : Option Addr) (t30a1n : Nat) (t30a1c : Nat) (t30b1 : Int), r6 = .tuple #[.slice t30a1A t30a1n t30a1c, I t30b1] ∧ FCall P f_RAll #[I n, I d] hp6 (fun r7 hp7 => ∃ (t36a1A : Option Addr) (t36a1n : Nat) (t36a1c : Nat) (t36b1 : Int), r7 = .tuple #[.slice t36a1A t36a1n t36a1c, I t36b1] ∧ FCall P f_KLists #[.slice t30a1A t30a1n t30a1c, .slice t36a1A t36a1n t36a1c] hp7 (fun r8 hp8 => ∃ (t411 : Bool), r8 = .bool t411 ∧ Br t411 (Br (t30b1 == t36b1) (FCall P f_LAwake #[] hp8 (fun r9 hp9 => ∃ (t481 : Bool), r9 = .bool t481 ∧ K (.bool t481) hp9))
  (K (.bool false) hp8))
  (K (.bool false) hp8))))))
  (FCall P f_MAll #[I n, I d] hp (fun r10 hp10 => ∃ (t30a2A : Option Addr) (t30a2n : Nat) (t30a2c : Nat) (t30b2 : Int), r10 = .tuple #[.slice t30a2A t30a2n t30a2c, I t30b2] ∧ FCall P f_RAll #[I n, I d] hp10 (fun r11 hp11 => ∃ (t36a2A : Option Addr) (t36a2n : Nat) (t36a2c : Nat) (t36b2 : Int), r11 = .tuple #[.slice t36a2A t36a2n t36a2c, I t36b2] ∧ FCall P f_KLists #[.slice t30a2A t30a2n t30a2c, .slice t36a2A t36a2n t36a2c] hp11 (fun r12 hp12 => ∃ (t412 : Bool), r12 = .bool t412 ∧ Br t412 (Br (t30b2 == t36b2) (FCall P f_LAwake #[] hp12 (fun r13 hp13 => ∃ (t482 : Bool), r13 = .bool t482 ∧ K (.bool t482) hp13))
  (K (.bool false) hp12))
  (K (.bool false) hp12))))))
theorem LMonomialAll_ok {h : Heap} {K : Value → Heap → Prop} (n : Int) (d : Int) (hvc : LMonomialAll Try.prog n d h K) : FCall Try.prog f_LMonomialAll #[I n, I d] h K :=
  fn_sound Try.func4 (c := codeOf Try.f4) (by kernel_rfl) (rs := [.tmp 4]) (by kernel_rfl) (fa := { loops := [], cuts := [], orders := [] })
    (cfg := { n := 50, own := [], lim := none, fns := [11, 12, 13, 14, 15] }) (args := [I n, I d]) (by kernel_rfl) (Bodies.cons Try.call11 (Bodies.cons Try.call12 (Bodies.cons Try.call13 (Bodies.cons Try.call14 (Bodies.cons Try.call15 Bodies.nil))))) (Eq.mp (by kernel_rfl : LMonomialAll Try.prog n d h K = _) hvc)

/-- what is asked of sosopt/sosoptlaw05.MonomialIndex -/
def LMonomialIndex (P : Program) (aA : Option Addr) (an : Nat) (ac : Nat) (bA : Option Addr) (bn : Nat) (bc : Nat) (h : Heap) (K : Value → Heap → Prop) : Prop :=
  wpH P (Instr.buildSlice 26 2 #[(0, .slice aA an ac), (1, .slice bA bn bc)]) (fun v hp => ∃ (t16A : Option Addr) (t16n : Nat) (t16c : Nat), v = .slice t16A t16n t16c ∧ FCall P f_LLong #[.slice t16A t16n t16c] hp (fun r hp1 => ∃ (t17 : Bool), r = .bool t17 ∧ Br t17 (FCall P f_LAwake #[] hp1 (fun r1 hp2 => ∃ (t35 : Bool), r1 = .bool t35 ∧ K (.bool t35) hp2))
  (FCall P f_MValid #[.slice aA an ac] hp1 (fun r2 hp3 => ∃ (t20 : Bool), r2 = .bool t20 ∧ Br (!t20) (FCall P f_LAwake #[] hp3 (fun r3 hp4 => ∃ (t351 : Bool), r3 = .bool t351 ∧ K (.bool t351) hp4))
  (FCall P f_MValid #[.slice bA bn bc] hp3 (fun r4 hp5 => ∃ (t25 : Bool), r4 = .bool t25 ∧ Br (!t25) (FCall P f_LAwake #[] hp5 (fun r5 hp6 => ∃ (t352 : Bool), r5 = .bool t352 ∧ K (.bool t352) hp6))
  (Br (((an : Nat) : Int) != ((bn : Nat) : Int)) (FCall P f_LAwake #[] hp5 (fun r6 hp7 => ∃ (t353 : Bool), r6 = .bool t353 ∧ K (.bool t353) hp7))
  (FCall P f_MIndex #[.slice aA an ac] hp5 (fun r7 hp8 => ∃ (t38a : Int) (t38b : Bool), r7 = .tuple #[I t38a, .bool t38b] ∧ FCall P f_MIndex #[.slice bA bn bc] hp8 (fun r8 hp9 => ∃ (t43a : Int) (t43b : Bool), r8 = .tuple #[I t43a, .bool t43b] ∧ Br (!t38b) (K (.bool false) hp9)
  (Br (!t43b) (K (.bool false) hp9)
  (FCall P f_MCompare #[.slice aA an ac, .slice bA bn bc] hp9 (fun r9 hp10 => ∃ (t58 : Int), r9 = I t58 ∧ Br (!((decide (t38a < t43a)) == (decide (t58 < (0 : Int))))) (K (.bool false) hp10)
  (FCall P f_MDegree #[.slice aA an ac] hp10 (fun r10 hp11 => ∃ (t63 : Int), r10 = I t63 ∧ FCall P f_MCount #[I ((an : Nat) : Int), I t63] hp11 (fun r11 hp12 => ∃ (t68a : Int) (t68b : Bool), r11 = .tuple #[I t68a, .bool t68b] ∧ Br (!t68b) (Br t68b (Br (decide (t38a < t68a)) (FCall P f_LAwake #[] hp12 (fun r12 hp13 => ∃ (t89 : Bool), r12 = .bool t89 ∧ K (.bool t89) hp13))
  (K (.bool false) hp12))
  (K (.bool false) hp12))
  (Br (decide (t38a ≥ t68a)) (Br t68b (Br (decide (t38a < t68a)) (FCall P f_LAwake #[] hp12 (fun r13 hp14 => ∃ (t891 : Bool), r13 = .bool t891 ∧ K (.bool t891) hp14))
  (K (.bool false) hp12))
  (K (.bool false) hp12))
  (Br (decide (t68a > (300 : Int))) (Br t68b (Br (decide (t38a < t68a)) (FCall P f_LAwake #[] hp12 (fun r14 hp15 => ∃ (t892 : Bool), r14 = .bool t892 ∧ K (.bool t892) hp15))
  (K (.bool false) hp12))
  (K (.bool false) hp12))
  (FCall P f_MAll #[I ((an : Nat) : Int), I t63] hp12 (fun r15 hp16 => ∃ (t95aA : Option Addr) (t95an : Nat) (t95ac : Nat) (t95b : Int), r15 = .tuple #[.slice t95aA t95an t95ac, I t95b] ∧ Br (t95b == (0 : Int)) (Br (decide (t38a < ((t95an : Nat) : Int))) (∃ a1, t95aA = some a1 ∧ 0 ≤ t38a ∧ t38a < (t95an : Int) ∧ ∃ (t110A : Option Addr) (t110n : Nat) (t110c : Nat), Heap.cell? hp16 (Addr.add a1 ((t38a).toNat * 1)) = some (.slice t110A t110n t110c) ∧ FCall P f_KInts #[.slice t110A t110n t110c, .slice aA an ac] hp16 (fun r16 hp17 => ∃ (t112 : Bool), r16 = .bool t112 ∧ Br t112 (FCall P f_LAwake #[] hp17 (fun r17 hp18 => ∃ (t115 : Bool), r17 = .bool t115 ∧ K (.bool t115) hp18))
  (K (.bool false) hp17)))
  (K (.bool false) hp16))
  (K (.bool false) hp16))))))))))))))))))))) h
theorem LMonomialIndex_ok {h : Heap} {K : Value → Heap → Prop} (aA : Option Addr) (an : Nat) (ac : Nat) (bA : Option Addr) (bn : Nat) (bc : Nat) (hvc : LMonomialIndex Try.prog aA an ac bA bn bc h K) : FCall Try.prog f_LMonomialIndex #[.slice aA an ac, .slice bA bn bc] h K :=
  fn_sound Try.func5 (c := codeOf Try.f5) (by kernel_rfl) (rs := [.tmp 4]) (by kernel_rfl) (fa := { loops := [], cuts := [], orders := [] })
    (cfg := { n := 117, own := [], lim := none, fns := [10, 12, 13, 16, 17, 18, 19, 20, 21] }) (args := [.slice aA an ac, .slice bA bn bc]) (by kernel_rfl) (Bodies.cons Try.call10 (Bodies.cons Try.call12 (Bodies.cons Try.call13 (Bodies.cons Try.call16 (Bodies.cons Try.call17 (Bodies.cons Try.call18 (Bodies.cons Try.call19 (Bodies.cons Try.call20 (Bodies.cons Try.call21 Bodies.nil))))))))) (Eq.mp (by kernel_rfl : LMonomialIndex Try.prog aA an ac bA bn bc h K = _) hvc)

/-- what is asked of sosopt/sosoptlaw05.MonomialValid -/
def LMonomialValid (P : Program) (aA : Option Addr) (an : Nat) (ac : Nat) (bA : Option Addr) (bn : Nat) (bc : Nat) (h : Heap) (K : Value → Heap → Prop) : Prop :=
  wpH P (Instr.buildSlice 26 2 #[(0, .slice aA an ac), (1, .slice bA bn bc)]) (fun v hp => ∃ (t11A : Option Addr) (t11n : Nat) (t11c : Nat), v = .slice t11A t11n t11c ∧ FCall P f_LLong #[.slice t11A t11n t11c] hp (fun r hp1 => ∃ (t12 : Bool), r = .bool t12 ∧ Br t12 (FCall P f_LAwake #[] hp1 (fun r1 hp2 => ∃ (t13 : Bool), r1 = .bool t13 ∧ K (.bool t13) hp2))
  (FCall P f_MIndex #[.slice aA an ac] hp1 (fun r2 hp3 => ∃ (t16a : Int) (t16b : Bool), r2 = .tuple #[I t16a, .bool t16b] ∧ FCall P f_RIndex #[.slice aA an ac] hp3 (fun r3 hp4 => ∃ (t21a : Int) (t21b : Bool), r3 = .tuple #[I t21a, .bool t21b] ∧ FCall P f_MValid #[.slice aA an ac] hp4 (fun r4 hp5 => ∃ (t25 : Bool), r4 = .bool t25 ∧ FCall P f_RValid #[.slice aA an ac] hp5 (fun r5 hp6 => ∃ (t27 : Bool), r5 = .bool t27 ∧ Br (t25 == t27) (FCall P f_MDegree #[.slice aA an ac] hp6 (fun r6 hp7 => ∃ (t31 : Int), r6 = I t31 ∧ FCall P f_RDegree #[.slice aA an ac] hp7 (fun r7 hp8 => ∃ (t33 : Int), r7 = I t33 ∧ Br (t31 == t33) (FCall P f_MCompare #[.slice aA an ac, .slice bA bn bc] hp8 (fun r8 hp9 => ∃ (t39 : Int), r8 = I t39 ∧ FCall P f_RCompare #[.slice aA an ac, .slice bA bn bc] hp9 (fun r9 hp10 => ∃ (t42 : Int), r9 = I t42 ∧ Br (t39 == t42) (Br (t16a == t21a) (Br (t16b == t21b) (FCall P f_MParity #[.slice aA an ac] hp10 (fun r10 hp11 => ∃ (t57A : Option Addr) (t57n : Nat) (t57c : Nat), r10 = .slice t57A t57n t57c ∧ FCall P f_RParity #[.slice aA an ac] hp11 (fun r11 hp12 => ∃ (t59A : Option Addr) (t59n : Nat) (t59c : Nat), r11 = .slice t59A t59n t59c ∧ FCall P f_KInts #[.slice t57A t57n t57c, .slice t59A t59n t59c] hp12 (fun r12 hp13 => ∃ (t60 : Bool), r12 = .bool t60 ∧ Br t60 (FCall P f_LAwake #[] hp13 (fun r13 hp14 => ∃ (t63 : Bool), r13 = .bool t63 ∧ K (.bool t63) hp14))
  (K (.bool false) hp13)))))
  (K (.bool false) hp10))
  (K (.bool false) hp10))
  (K (.bool false) hp10))))
  (K (.bool false) hp8))))
  (K (.bool false) hp6)))))))) h
theorem LMonomialValid_ok {h : Heap} {K : Value → Heap → Prop} (aA : Option Addr) (an : Nat) (ac : Nat) (bA : Option Addr) (bn : Nat) (bc : Nat) (hvc : LMonomialValid Try.prog aA an ac bA bn bc h K) : FCall Try.prog f_LMonomialValid #[.slice aA an ac, .slice bA bn bc] h K :=
  fn_sound Try.func6 (c := codeOf Try.f6) (by kernel_rfl) (rs := [.tmp 4]) (by kernel_rfl) (fa := { loops := [], cuts := [], orders := [] })
    (cfg := { n := 65, own := [], lim := none, fns := [12, 16, 17, 18, 19, 20, 21, 22, 23, 24, 25, 26, 27] }) (args := [.slice aA an ac, .slice bA bn bc]) (by kernel_rfl) (Bodies.cons Try.call12 (Bodies.cons Try.call16 (Bodies.cons Try.call17 (Bodies.cons Try.call18 (Bodies.cons Try.call19 (Bodies.cons Try.call20 (Bodies.cons Try.call21 (Bodies.cons Try.call22 (Bodies.cons Try.call23 (Bodies.cons Try.call24 (Bodies.cons Try.call25 (Bodies.cons Try.call26 (Bodies.cons Try.call27 Bodies.nil))))))))))))) (Eq.mp (by kernel_rfl : LMonomialValid Try.prog aA an ac bA bn bc h K = _) hvc)

/-- what is asked of sosopt/sosoptlaw05.MonomialOrder -/
def LMonomialOrder (P : Program) (aA : Option Addr) (an : Nat) (ac : Nat) (bA : Option Addr) (bn : Nat) (bc : Nat) (cA : Option Addr) (cn : Nat) (cc : Nat) (h : Heap) (K : Value → Heap → Prop) : Prop :=
  wpH P (Instr.buildSlice 26 3 #[(0, .slice aA an ac), (1, .slice bA bn bc), (2, .slice cA cn cc)]) (fun v hp => ∃ (t17A : Option Addr) (t17n : Nat) (t17c : Nat), v = .slice t17A t17n t17c ∧ FCall P f_LLong #[.slice t17A t17n t17c] hp (fun r hp1 => ∃ (t18 : Bool), r = .bool t18 ∧ Br t18 (FCall P f_LAwake #[] hp1 (fun r1 hp2 => ∃ (t48 : Bool), r1 = .bool t48 ∧ K (.bool t48) hp2))
  (FCall P f_MValid #[.slice aA an ac] hp1 (fun r2 hp3 => ∃ (t21 : Bool), r2 = .bool t21 ∧ Br (!t21) (FCall P f_LAwake #[] hp3 (fun r3 hp4 => ∃ (t481 : Bool), r3 = .bool t481 ∧ K (.bool t481) hp4))
  (FCall P f_MValid #[.slice bA bn bc] hp3 (fun r4 hp5 => ∃ (t26 : Bool), r4 = .bool t26 ∧ Br (!t26) (FCall P f_LAwake #[] hp5 (fun r5 hp6 => ∃ (t482 : Bool), r5 = .bool t482 ∧ K (.bool t482) hp6))
  (FCall P f_MValid #[.slice cA cn cc] hp5 (fun r6 hp7 => ∃ (t31 : Bool), r6 = .bool t31 ∧ Br (!t31) (FCall P f_LAwake #[] hp7 (fun r7 hp8 => ∃ (t483 : Bool), r7 = .bool t483 ∧ K (.bool t483) hp8))
  (Br (((an : Nat) : Int) != ((bn : Nat) : Int)) (FCall P f_LAwake #[] hp7 (fun r8 hp9 => ∃ (t484 : Bool), r8 = .bool t484 ∧ K (.bool t484) hp9))
  (Br (((an : Nat) : Int) != ((cn : Nat) : Int)) (FCall P f_LAwake #[] hp7 (fun r9 hp10 => ∃ (t485 : Bool), r9 = .bool t485 ∧ K (.bool t485) hp10))
  (FCall P f_MCompare #[.slice aA an ac, .slice bA bn bc] hp7 (fun r10 hp11 => ∃ (t51 : Int), r10 = I t51 ∧ FCall P f_MCompare #[.slice bA bn bc, .slice cA cn cc] hp11 (fun r11 hp12 => ∃ (t54 : Int), r11 = I t54 ∧ FCall P f_MCompare #[.slice aA an ac, .slice cA cn cc] hp12 (fun r12 hp13 => ∃ (t57 : Int), r12 = I t57 ∧ ∃ (Jv : List Value → Heap → Prop), (FCall P f_MCompare #[.slice bA bn bc, .slice aA an ac] hp13 (fun r13 hp14 => ∃ (t60 : Int), r13 = I t60 ∧ Br (t60 != (wi64 (0 - t51))) (K (.bool false) hp14)
  (FCall P f_KInts #[.slice aA an ac, .slice bA bn bc] hp14 (fun r14 hp15 => ∃ (t69 : Bool), r14 = .bool t69 ∧ Br (!((t51 == (0 : Int)) == t69)) (K (.bool false) hp15)
  (Br (decide (t51 ≤ (0 : Int))) (Br (decide (t54 ≤ (0 : Int))) (Br (decide (t57 > (0 : Int))) (K (.bool false) hp15)
  (Br (decide (t51 < (0 : Int))) (Br (decide (t54 ≤ (0 : Int))) (Br (decide (t57 ≥ (0 : Int))) (K (.bool false) hp15)
  (Jv [] hp15))
  (Jv [] hp15))
  (Jv [] hp15)))
  (Br (decide (t51 < (0 : Int))) (Br (decide (t54 ≤ (0 : Int))) (Br (decide (t57 ≥ (0 : Int))) (K (.bool false) hp15)
  (Jv [] hp15))
  (Jv [] hp15))
  (Jv [] hp15)))
  (Br (decide (t51 < (0 : Int))) (Br (decide (t54 ≤ (0 : Int))) (Br (decide (t57 ≥ (0 : Int))) (K (.bool false) hp15)
  (Jv [] hp15))
  (Jv [] hp15))
  (Jv [] hp15))))))) ∧
  ∀ hp16, Jv [] hp16 → wpH P (Instr.makeSlice 31 (I ((an : Nat) : Int)) (I ((an : Nat) : Int))) (fun v1 hp17 => ∃ (t98A : Option Addr) (t98n : Nat) (t98c : Nat), v1 = .slice t98A t98n t98c ∧ FCall P f_MCompare #[.slice t98A t98n t98c, .slice aA an ac] hp17 (fun r15 hp18 => ∃ (t100 : Int), r15 = I t100 ∧ Br (decide (t100 > (0 : Int))) (K (.bool false) hp18)
  (FCall P f_MMul #[.slice aA an ac, .slice cA cn cc] hp18 (fun r16 hp19 => ∃ (t105aA : Option Addr) (t105an : Nat) (t105ac : Nat) (t105b : Bool), r16 = .tuple #[.slice t105aA t105an t105ac, .bool t105b] ∧ FCall P f_MMul #[.slice bA bn bc, .slice cA cn cc] hp19 (fun r17 hp20 => ∃ (t111aA : Option Addr) (t111an : Nat) (t111ac : Nat) (t111b : Bool), r17 = .tuple #[.slice t111aA t111an t111ac, .bool t111b] ∧ Br (!t105b) (FCall P f_LAwake #[] hp20 (fun r18 hp21 => ∃ (t128 : Bool), r18 = .bool t128 ∧ K (.bool t128) hp21))
  (Br (!t111b) (FCall P f_LAwake #[] hp20 (fun r19 hp22 => ∃ (t1281 : Bool), r19 = .bool t1281 ∧ K (.bool t1281) hp22))
  (FCall P f_MCompare #[.slice t105aA t105an t105ac, .slice t111aA t111an t111ac] hp20 (fun r20 hp23 => ∃ (t123 : Int), r20 = I t123 ∧ Br (t123 == t51) (FCall P f_LAwake #[] hp23 (fun r21 hp24 => ∃ (t1282 : Bool), r21 = .bool t1282 ∧ K (.bool t1282) hp24))
  (K (.bool false) hp23))))))))) hp16)))))))))))))) h
theorem LMonomialOrder_ok {h : Heap} {K : Value → Heap → Prop} (aA : Option Addr) (an : Nat) (ac : Nat) (bA : Option Addr) (bn : Nat) (bc : Nat) (cA : Option Addr) (cn : Nat) (cc : Nat) (hvc : LMonomialOrder Try.prog aA an ac bA bn bc cA cn cc h K) : FCall Try.prog f_LMonomialOrder #[.slice aA an ac, .slice bA bn bc, .slice cA cn cc] h K :=
  fn_sound Try.func7 (c := codeOf Try.f7) (by kernel_rfl) (rs := [.tmp 6]) (by kernel_rfl) (fa := { loops := [], cuts := [(6, { slots := [], owns := [], zs := [], lim := { slots := [6, 58, 59, 60, 61, 62, 63, 64, 65, 66, 67, 68, 69, 70, 71, 72, 73, 74, 75, 76, 77, 78, 79, 80, 81, 82, 83, 84, 85, 86, 87, 88, 89, 90, 91, 92, 93, 94, 95], keys := [] } })], orders := [] })
    (cfg := { n := 130, own := [], lim := none, fns := [12, 16, 17, 19, 21, 28] }) (args := [.slice aA an ac, .slice bA bn bc, .slice cA cn cc]) (by kernel_rfl) (Bodies.cons Try.call12 (Bodies.cons Try.call16 (Bodies.cons Try.call17 (Bodies.cons Try.call19 (Bodies.cons Try.call21 (Bodies.cons Try.call28 Bodies.nil)))))) (Eq.mp (by kernel_rfl : LMonomialOrder Try.prog aA an ac bA bn bc cA cn cc h K = _) hvc)

/-- what is asked of sosopt/sosoptlaw05.MonomialArithmetic -/
def LMonomialArithmetic (P : Program) (aA : Option Addr) (an : Nat) (ac : Nat) (bA : Option Addr) (bn : Nat) (bc : Nat) (h : Heap) (K : Value → Heap → Prop) : Prop :=
  wpH P (Instr.buildSlice 26 2 #[(0, .slice aA an ac), (1, .slice bA bn bc)]) (fun v hp => ∃ (t19A : Option Addr) (t19n : Nat) (t19c : Nat), v = .slice t19A t19n t19c ∧ FCall P f_LLong #[.slice t19A t19n t19c] hp (fun r hp1 => ∃ (t20 : Bool), r = .bool t20 ∧ Br t20 (FCall P f_LAwake #[] hp1 (fun r1 hp2 => ∃ (t21 : Bool), r1 = .bool t21 ∧ K (.bool t21) hp2))
  (FCall P f_MMul #[.slice aA an ac, .slice bA bn bc] hp1 (fun r2 hp3 => ∃ (t25aA : Option Addr) (t25an : Nat) (t25ac : Nat) (t25b : Bool), r2 = .tuple #[.slice t25aA t25an t25ac, .bool t25b] ∧ FCall P f_RMul #[.slice aA an ac, .slice bA bn bc] hp3 (fun r3 hp4 => ∃ (t31aA : Option Addr) (t31an : Nat) (t31ac : Nat) (t31b : Bool), r3 = .tuple #[.slice t31aA t31an t31ac, .bool t31b] ∧ FCall P f_MDiv #[.slice aA an ac, .slice bA bn bc] hp4 (fun r4 hp5 => ∃ (t37aA : Option Addr) (t37an : Nat) (t37ac : Nat) (t37b : Bool), r4 = .tuple #[.slice t37aA t37an t37ac, .bool t37b] ∧ FCall P f_RDiv #[.slice aA an ac, .slice bA bn bc] hp5 (fun r5 hp6 => ∃ (t43aA : Option Addr) (t43an : Nat) (t43ac : Nat) (t43b : Bool), r5 = .tuple #[.slice t43aA t43an t43ac, .bool t43b] ∧ FCall P f_MLcm #[.slice aA an ac, .slice bA bn bc] hp6 (fun r6 hp7 => ∃ (t49aA : Option Addr) (t49an : Nat) (t49ac : Nat) (t49b : Bool), r6 = .tuple #[.slice t49aA t49an t49ac, .bool t49b] ∧ FCall P f_RLcm #[.slice aA an ac, .slice bA bn bc] hp7 (fun r7 hp8 => ∃ (t55aA : Option Addr) (t55an : Nat) (t55ac : Nat) (t55b : Bool), r7 = .tuple #[.slice t55aA t55an t55ac, .bool t55b] ∧ FCall P f_KInts #[.slice t25aA t25an t25ac, .slice t31aA t31an t31ac] hp8 (fun r8 hp9 => ∃ (t60 : Bool), r8 = .bool t60 ∧ Br t60 (Br (t25b == t31b) (FCall P f_KInts #[.slice t37aA t37an t37ac, .slice t43aA t43an t43ac] hp9 (fun r9 hp10 => ∃ (t69 : Bool), r9 = .bool t69 ∧ Br t69 (Br (t37b == t43b) (FCall P f_KInts #[.slice t49aA t49an t49ac, .slice t55aA t55an t55ac] hp10 (fun r10 hp11 => ∃ (t79 : Bool), r10 = .bool t79 ∧ Br t79 (Br (t49b == t55b) (FCall P f_MDivides #[.slice aA an ac, .slice bA bn bc] hp11 (fun r11 hp12 => ∃ (t89 : Bool), r11 = .bool t89 ∧ FCall P f_RDivides #[.slice aA an ac, .slice bA bn bc] hp12 (fun r12 hp13 => ∃ (t92 : Bool), r12 = .bool t92 ∧ Br (t89 == t92) (FCall P f_LAwake #[] hp13 (fun r13 hp14 => ∃ (t96 : Bool), r13 = .bool t96 ∧ K (.bool t96) hp14))
  (K (.bool false) hp13))))
  (K (.bool false) hp11))
  (K (.bool false) hp11)))
  (K (.bool false) hp10))
  (K (.bool false) hp10)))
  (K (.bool false) hp9))
  (K (.bool false) hp9))))))))))) h
theorem LMonomialArithmetic_ok {h : Heap} {K : Value → Heap → Prop} (aA : Option Addr) (an : Nat) (ac : Nat) (bA : Option Addr) (bn : Nat) (bc : Nat) (hvc : LMonomialArithmetic Try.prog aA an ac bA bn bc h K) : FCall Try.prog f_LMonomialArithmetic #[.slice aA an ac, .slice bA bn bc] h K :=
  fn_sound Try.func8 (c := codeOf Try.f8) (by kernel_rfl) (rs := [.tmp 4]) (by kernel_rfl) (fa := { loops := [], cuts := [], orders := [] })
    (cfg := { n := 98, own := [], lim := none, fns := [12, 16, 21, 28, 29, 30, 31, 32, 33, 34, 35] }) (args := [.slice aA an ac, .slice bA bn bc]) (by kernel_rfl) (Bodies.cons Try.call12 (Bodies.cons Try.call16 (Bodies.cons Try.call21 (Bodies.cons Try.call28 (Bodies.cons Try.call29 (Bodies.cons Try.call30 (Bodies.cons Try.call31 (Bodies.cons Try.call32 (Bodies.cons Try.call33 (Bodies.cons Try.call34 (Bodies.cons Try.call35 Bodies.nil))))))))))) (Eq.mp (by kernel_rfl : LMonomialArithmetic Try.prog aA an ac bA bn bc h K = _) hvc)

/-- what is asked of sosopt/sosoptlaw05.MonomialLcm -/
def LMonomialLcm (P : Program) (aA : Option Addr) (an : Nat) (ac : Nat) (bA : Option Addr) (bn : Nat) (bc : Nat) (cA : Option Addr) (cn : Nat) (cc : Nat) (h : Heap) (K : Value → Heap → Prop) : Prop :=
  wpH P (Instr.buildSlice 26 3 #[(0, .slice aA an ac), (1, .slice bA bn bc), (2, .slice cA cn cc)]) (fun v hp => ∃ (t16A : Option Addr) (t16n : Nat) (t16c : Nat), v = .slice t16A t16n t16c ∧ FCall P f_LLong #[.slice t16A t16n t16c] hp (fun r hp1 => ∃ (t17 : Bool), r = .bool t17 ∧ Br t17 (FCall P f_LAwake #[] hp1 (fun r1 hp2 => ∃ (t35 : Bool), r1 = .bool t35 ∧ K (.bool t35) hp2))
  (FCall P f_MValid #[.slice aA an ac] hp1 (fun r2 hp3 => ∃ (t20 : Bool), r2 = .bool t20 ∧ Br (!t20) (FCall P f_LAwake #[] hp3 (fun r3 hp4 => ∃ (t351 : Bool), r3 = .bool t351 ∧ K (.bool t351) hp4))
  (FCall P f_MValid #[.slice bA bn bc] hp3 (fun r4 hp5 => ∃ (t25 : Bool), r4 = .bool t25 ∧ Br (!t25) (FCall P f_LAwake #[] hp5 (fun r5 hp6 => ∃ (t352 : Bool), r5 = .bool t352 ∧ K (.bool t352) hp6))
  (Br (((an : Nat) : Int) != ((bn : Nat) : Int)) (FCall P f_LAwake #[] hp5 (fun r6 hp7 => ∃ (t353 : Bool), r6 = .bool t353 ∧ K (.bool t353) hp7))
  (FCall P f_MMul #[.slice aA an ac, .slice bA bn bc] hp5 (fun r7 hp8 => ∃ (t39aA : Option Addr) (t39an : Nat) (t39ac : Nat) (t39b : Bool), r7 = .tuple #[.slice t39aA t39an t39ac, .bool t39b] ∧ Br t39b (FCall P f_MDiv #[.slice t39aA t39an t39ac, .slice bA bn bc] hp8 (fun r8 hp9 => ∃ (t46aA : Option Addr) (t46an : Nat) (t46ac : Nat) (t46b : Bool), r8 = .tuple #[.slice t46aA t46an t46ac, .bool t46b] ∧ Br (!t46b) (K (.bool false) hp9)
  (FCall P f_KInts #[.slice t46aA t46an t46ac, .slice aA an ac] hp9 (fun r9 hp10 => ∃ (t54 : Bool), r9 = .bool t54 ∧ Br (!t54) (K (.bool false) hp10)
  (FCall P f_MLcm #[.slice aA an ac, .slice bA bn bc] hp10 (fun r10 hp11 => ∃ (t60aA : Option Addr) (t60an : Nat) (t60ac : Nat) (t60b : Bool), r10 = .tuple #[.slice t60aA t60an t60ac, .bool t60b] ∧ Br (!t60b) (Br (!t39b) (FCall P f_LAwake #[] hp11 (fun r11 hp12 => ∃ (t68 : Bool), r11 = .bool t68 ∧ K (.bool t68) hp12))
  (K (.bool false) hp11))
  (FCall P f_MDivides #[.slice aA an ac, .slice t60aA t60an t60ac] hp11 (fun r12 hp13 => ∃ (t72 : Bool), r12 = .bool t72 ∧ Br (!t72) (K (.bool false) hp13)
  (FCall P f_MDivides #[.slice bA bn bc, .slice t60aA t60an t60ac] hp13 (fun r13 hp14 => ∃ (t77 : Bool), r13 = .bool t77 ∧ Br (!t77) (K (.bool false) hp14)
  (FCall P f_MDivides #[.slice aA an ac, .slice cA cn cc] hp14 (fun r14 hp15 => ∃ (t82 : Bool), r14 = .bool t82 ∧ Br (!t82) (FCall P f_LAwake #[] hp15 (fun r15 hp16 => ∃ (t96 : Bool), r15 = .bool t96 ∧ K (.bool t96) hp16))
  (FCall P f_MDivides #[.slice bA bn bc, .slice cA cn cc] hp15 (fun r16 hp17 => ∃ (t87 : Bool), r16 = .bool t87 ∧ Br (!t87) (FCall P f_LAwake #[] hp17 (fun r17 hp18 => ∃ (t961 : Bool), r17 = .bool t961 ∧ K (.bool t961) hp18))
  (FCall P f_MDivides #[.slice t60aA t60an t60ac, .slice cA cn cc] hp17 (fun r18 hp19 => ∃ (t93 : Bool), r18 = .bool t93 ∧ Br t93 (FCall P f_LAwake #[] hp19 (fun r19 hp20 => ∃ (t962 : Bool), r19 = .bool t962 ∧ K (.bool t962) hp20))
  (K (.bool false) hp19)))))))))))))))))
  (FCall P f_MLcm #[.slice aA an ac, .slice bA bn bc] hp8 (fun r20 hp21 => ∃ (t60a1A : Option Addr) (t60a1n : Nat) (t60a1c : Nat) (t60b1 : Bool), r20 = .tuple #[.slice t60a1A t60a1n t60a1c, .bool t60b1] ∧ Br (!t60b1) (Br (!t39b) (FCall P f_LAwake #[] hp21 (fun r21 hp22 => ∃ (t681 : Bool), r21 = .bool t681 ∧ K (.bool t681) hp22))
  (K (.bool false) hp21))
  (FCall P f_MDivides #[.slice aA an ac, .slice t60a1A t60a1n t60a1c] hp21 (fun r22 hp23 => ∃ (t721 : Bool), r22 = .bool t721 ∧ Br (!t721) (K (.bool false) hp23)
  (FCall P f_MDivides #[.slice bA bn bc, .slice t60a1A t60a1n t60a1c] hp23 (fun r23 hp24 => ∃ (t771 : Bool), r23 = .bool t771 ∧ Br (!t771) (K (.bool false) hp24)
  (FCall P f_MDivides #[.slice aA an ac, .slice cA cn cc] hp24 (fun r24 hp25 => ∃ (t821 : Bool), r24 = .bool t821 ∧ Br (!t821) (FCall P f_LAwake #[] hp25 (fun r25 hp26 => ∃ (t963 : Bool), r25 = .bool t963 ∧ K (.bool t963) hp26))
  (FCall P f_MDivides #[.slice bA bn bc, .slice cA cn cc] hp25 (fun r26 hp27 => ∃ (t871 : Bool), r26 = .bool t871 ∧ Br (!t871) (FCall P f_LAwake #[] hp27 (fun r27 hp28 => ∃ (t964 : Bool), r27 = .bool t964 ∧ K (.bool t964) hp28))
  (FCall P f_MDivides #[.slice t60a1A t60a1n t60a1c, .slice cA cn cc] hp27 (fun r28 hp29 => ∃ (t931 : Bool), r28 = .bool t931 ∧ Br t931 (FCall P f_LAwake #[] hp29 (fun r29 hp30 => ∃ (t965 : Bool), r29 = .bool t965 ∧ K (.bool t965) hp30))
  (K (.bool false) hp29)))))))))))))))))))))) h
theorem LMonomialLcm_ok {h : Heap} {K : Value → Heap → Prop} (aA : Option Addr) (an : Nat) (ac : Nat) (bA : Option Addr) (bn : Nat) (bc : Nat) (cA : Option Addr) (cn : Nat) (cc : Nat) (hvc : LMonomialLcm Try.prog aA an ac bA bn bc cA cn cc h K) : FCall Try.prog f_LMonomialLcm #[.slice aA an ac, .slice bA bn bc, .slice cA cn cc] h K :=
  fn_sound Try.func9 (c := codeOf Try.f9) (by kernel_rfl) (rs := [.tmp 6]) (by kernel_rfl) (fa := { loops := [], cuts := [], orders := [] })
    (cfg := { n := 98, own := [], lim := none, fns := [12, 16, 17, 21, 28, 30, 32, 34] }) (args := [.slice aA an ac, .slice bA bn bc, .slice cA cn cc]) (by kernel_rfl) (Bodies.cons Try.call12 (Bodies.cons Try.call16 (Bodies.cons Try.call17 (Bodies.cons Try.call21 (Bodies.cons Try.call28 (Bodies.cons Try.call30 (Bodies.cons Try.call32 (Bodies.cons Try.call34 Bodies.nil)))))))) (Eq.mp (by kernel_rfl : LMonomialLcm Try.prog aA an ac bA bn bc cA cn cc h K = _) hvc)

/-- what is asked of cmp.Compare[int] -/
def CmpInt (P : Program) (x : Int) (y : Int) (h : Heap) (K : Value → Heap → Prop) : Prop :=
  FCall P f_IsNaNInt #[I x] h (fun r hp => ∃ (t8 : Bool), r = .bool t8 ∧ FCall P f_IsNaNInt #[I y] hp (fun r1 hp1 => ∃ (t10 : Bool), r1 = .bool t10 ∧ Br t8 (Br t10 (K (I (0 : Int)) hp1)
  (K (I (-1 : Int)) hp1))
  (Br t10 (K (I (1 : Int)) hp1)
  (Br (decide (x < y)) (K (I (-1 : Int)) hp1)
  (Br (decide (x > y)) (K (I (1 : Int)) hp1)
  (K (I (0 : Int)) hp1))))))
theorem CmpInt_ok {h : Heap} {K : Value → Heap → Prop} (x : Int) (y : Int) (hvc : CmpInt Try.prog x y h K) : FCall Try.prog f_CmpInt #[I x, I y] h K :=
  fn_sound Try.func49 (c := codeOf Try.f49) (by kernel_rfl) (rs := [.tmp 4]) (by kernel_rfl) (fa := { loops := [], cuts := [], orders := [] })
    (cfg := { n := 20, own := [], lim := none, fns := [50] }) (args := [I x, I y]) (by kernel_rfl) (Bodies.cons Try.call50 Bodies.nil) (Eq.mp (by kernel_rfl : CmpInt Try.prog x y h K = _) hvc)

/-- what is asked of sosopt/monomial.combine -/
def MCombineMul (P : Program) (aA : Option Addr) (an : Nat) (ac : Nat) (bA : Option Addr) (bn : Nat) (bc : Nat) (h : Heap) (K : Value → Heap → Prop) : Prop :=
  FCall P f_MValidPair #[.slice aA an ac, .slice bA bn bc] h (fun r hp => ∃ (t13 : Bool), r = .bool t13 ∧ Br (!t13) (K (.tuple #[.slice none 0 0, .bool false]) hp)
  (wpH P (Instr.makeSlice 31 (I ((an : Nat) : Int)) (I ((an : Nat) : Int))) (fun v hp1 => ∃ (t17A : Option Addr) (t17n : Nat) (t17c : Nat), v = .slice t17A t17n t17c ∧ ∃ (Invv : List Value → Heap → Prop) (muv : List Value → Heap → Nat), Invv [I (0 : Int)] hp1 ∧
  ∀ (t20 : Int), ∀ hp2, Invv [I t20] hp2 → Br (decide (t20 < ((an : Nat) : Int))) (∃ a1, aA = some a1 ∧ 0 ≤ t20 ∧ t20 < (an : Int) ∧ ∃ (t24 : Int), Heap.cell? hp2 (Addr.add a1 ((t20).toNat * 1)) = some (I t24) ∧ ∃ a2, bA = some a2 ∧ 0 ≤ t20 ∧ t20 < (bn : Int) ∧ ∃ (t32 : Int), Heap.cell? hp2 (Addr.add a2 ((t20).toNat * 1)) = some (I t32) ∧ FCall P f_MMul1 #[I t24, I t32] hp2 (fun r1 hp3 => ∃ (t33 : Int), r1 = I t33 ∧ ∃ a3, t17A = some a3 ∧ 0 ≤ t20 ∧ t20 < (t17n : Int) ∧ wpH P (Instr.storeAt 3 (.pointer (some (Addr.add a3 ((t20).toNat * 1)))) (I t33)) (fun _ hp4 => Invv [I (wi64 (t20 + (1 : Int)))] hp4 ∧ muv [I (wi64 (t20 + (1 : Int)))] hp4 < muv [I t20] hp2) hp3))
  (FCall P f_MValid #[.slice t17A t17n t17c] hp2 (fun r2 hp5 => ∃ (t37 : Bool), r2 = .bool t37 ∧ Br (!t37) (K (.tuple #[.slice none 0 0, .bool false]) hp5)
  (K (.tuple #[.slice t17A t17n t17c, .bool true]) hp5)))) hp))
theorem MCombineMul_ok {h : Heap} {K : Value → Heap → Prop} (aA : Option Addr) (an : Nat) (ac : Nat) (bA : Option Addr) (bn : Nat) (bc : Nat) (hvc : MCombineMul Try.prog aA an ac bA bn bc h K) : FCall Try.prog f_MCombine #[.slice aA an ac, .slice bA bn bc, .func (.func 45) #[] #[]] h K :=
  fn_sound Try.func44 (c := codeOf Try.f44) (by kernel_rfl) (rs := [.tmp 6, .tmp 7]) (by kernel_rfl) (fa := { loops := [(5, { slots := [20], owns := [], zs := [.int .i64 0], lim := { slots := [9, 10, 20, 21, 22, 23, 24, 25, 26, 27, 28, 29, 30, 31, 32, 33, 34, 35], keys := [] } })], cuts := [], orders := [] })
    (cfg := { n := 40, own := [], lim := none, fns := [17, 39, 45] }) (args := [.slice aA an ac, .slice bA bn bc, .func (.func 45) #[] #[]]) (by kernel_rfl) (Bodies.cons Try.call17 (Bodies.cons Try.call39 (Bodies.cons Try.call45 Bodies.nil))) (Eq.mp (by kernel_rfl : MCombineMul Try.prog aA an ac bA bn bc h K = _) hvc)

/-- what is asked of sosopt/monomial.combine -/
def MCombineDiv (P : Program) (aA : Option Addr) (an : Nat) (ac : Nat) (bA : Option Addr) (bn : Nat) (bc : Nat) (h : Heap) (K : Value → Heap → Prop) : Prop :=
  FCall P f_MValidPair #[.slice aA an ac, .slice bA bn bc] h (fun r hp => ∃ (t13 : Bool), r = .bool t13 ∧ Br (!t13) (K (.tuple #[.slice none 0 0, .bool false]) hp)
  (wpH P (Instr.makeSlice 31 (I ((an : Nat) : Int)) (I ((an : Nat) : Int))) (fun v hp1 => ∃ (t17A : Option Addr) (t17n : Nat) (t17c : Nat), v = .slice t17A t17n t17c ∧ ∃ (Invv : List Value → Heap → Prop) (muv : List Value → Heap → Nat), Invv [I (0 : Int)] hp1 ∧
  ∀ (t20 : Int), ∀ hp2, Invv [I t20] hp2 → Br (decide (t20 < ((an : Nat) : Int))) (∃ a1, aA = some a1 ∧ 0 ≤ t20 ∧ t20 < (an : Int) ∧ ∃ (t24 : Int), Heap.cell? hp2 (Addr.add a1 ((t20).toNat * 1)) = some (I t24) ∧ ∃ a2, bA = some a2 ∧ 0 ≤ t20 ∧ t20 < (bn : Int) ∧ ∃ (t32 : Int), Heap.cell? hp2 (Addr.add a2 ((t20).toNat * 1)) = some (I t32) ∧ FCall P f_MDiv1 #[I t24, I t32] hp2 (fun r1 hp3 => ∃ (t33 : Int), r1 = I t33 ∧ ∃ a3, t17A = some a3 ∧ 0 ≤ t20 ∧ t20 < (t17n : Int) ∧ wpH P (Instr.storeAt 3 (.pointer (some (Addr.add a3 ((t20).toNat * 1)))) (I t33)) (fun _ hp4 => Invv [I (wi64 (t20 + (1 : Int)))] hp4 ∧ muv [I (wi64 (t20 + (1 : Int)))] hp4 < muv [I t20] hp2) hp3))
  (FCall P f_MValid #[.slice t17A t17n t17c] hp2 (fun r2 hp5 => ∃ (t37 : Bool), r2 = .bool t37 ∧ Br (!t37) (K (.tuple #[.slice none 0 0, .bool false]) hp5)
  (K (.tuple #[.slice t17A t17n t17c, .bool true]) hp5)))) hp))
theorem MCombineDiv_ok {h : Heap} {K : Value → Heap → Prop} (aA : Option Addr) (an : Nat) (ac : Nat) (bA : Option Addr) (bn : Nat) (bc : Nat) (hvc : MCombineDiv Try.prog aA an ac bA bn bc h K) : FCall Try.prog f_MCombine #[.slice aA an ac, .slice bA bn bc, .func (.func 46) #[] #[]] h K :=
  fn_sound Try.func44 (c := codeOf Try.f44) (by kernel_rfl) (rs := [.tmp 6, .tmp 7]) (by kernel_rfl) (fa := { loops := [(5, { slots := [20], owns := [], zs := [.int .i64 0], lim := { slots := [9, 10, 20, 21, 22, 23, 24, 25, 26, 27, 28, 29, 30, 31, 32, 33, 34, 35], keys := [] } })], cuts := [], orders := [] })
    (cfg := { n := 40, own := [], lim := none, fns := [17, 39, 46] }) (args := [.slice aA an ac, .slice bA bn bc, .func (.func 46) #[] #[]]) (by kernel_rfl) (Bodies.cons Try.call17 (Bodies.cons Try.call39 (Bodies.cons Try.call46 Bodies.nil))) (Eq.mp (by kernel_rfl : MCombineDiv Try.prog aA an ac bA bn bc h K = _) hvc)

/-- what is asked of sosopt/monomial.combine -/
def MCombineLcm (P : Program) (aA : Option Addr) (an : Nat) (ac : Nat) (bA : Option Addr) (bn : Nat) (bc : Nat) (h : Heap) (K : Value → Heap → Prop) : Prop :=
  FCall P f_MValidPair #[.slice aA an ac, .slice bA bn bc] h (fun r hp => ∃ (t13 : Bool), r = .bool t13 ∧ Br (!t13) (K (.tuple #[.slice none 0 0, .bool false]) hp)
  (wpH P (Instr.makeSlice 31 (I ((an : Nat) : Int)) (I ((an : Nat) : Int))) (fun v hp1 => ∃ (t17A : Option Addr) (t17n : Nat) (t17c : Nat), v = .slice t17A t17n t17c ∧ ∃ (Invv : List Value → Heap → Prop) (muv : List Value → Heap → Nat), Invv [I (0 : Int)] hp1 ∧
  ∀ (t20 : Int), ∀ hp2, Invv [I t20] hp2 → Br (decide (t20 < ((an : Nat) : Int))) (∃ a1, aA = some a1 ∧ 0 ≤ t20 ∧ t20 < (an : Int) ∧ ∃ (t24 : Int), Heap.cell? hp2 (Addr.add a1 ((t20).toNat * 1)) = some (I t24) ∧ ∃ a2, bA = some a2 ∧ 0 ≤ t20 ∧ t20 < (bn : Int) ∧ ∃ (t32 : Int), Heap.cell? hp2 (Addr.add a2 ((t20).toNat * 1)) = some (I t32) ∧ FCall P f_MLcm1 #[I t24, I t32] hp2 (fun r1 hp3 => ∃ (t33 : Int), r1 = I t33 ∧ ∃ a3, t17A = some a3 ∧ 0 ≤ t20 ∧ t20 < (t17n : Int) ∧ wpH P (Instr.storeAt 3 (.pointer (some (Addr.add a3 ((t20).toNat * 1)))) (I t33)) (fun _ hp4 => Invv [I (wi64 (t20 + (1 : Int)))] hp4 ∧ muv [I (wi64 (t20 + (1 : Int)))] hp4 < muv [I t20] hp2) hp3))
  (FCall P f_MValid #[.slice t17A t17n t17c] hp2 (fun r2 hp5 => ∃ (t37 : Bool), r2 = .bool t37 ∧ Br (!t37) (K (.tuple #[.slice none 0 0, .bool false]) hp5)
  (K (.tuple #[.slice t17A t17n t17c, .bool true]) hp5)))) hp))
theorem MCombineLcm_ok {h : Heap} {K : Value → Heap → Prop} (aA : Option Addr) (an : Nat) (ac : Nat) (bA : Option Addr) (bn : Nat) (bc : Nat) (hvc : MCombineLcm Try.prog aA an ac bA bn bc h K) : FCall Try.prog f_MCombine #[.slice aA an ac, .slice bA bn bc, .func (.func 47) #[] #[]] h K :=
  fn_sound Try.func44 (c := codeOf Try.f44) (by kernel_rfl) (rs := [.tmp 6, .tmp 7]) (by kernel_rfl) (fa := { loops := [(5, { slots := [20], owns := [], zs := [.int .i64 0], lim := { slots := [9, 10, 20, 21, 22, 23, 24, 25, 26, 27, 28, 29, 30, 31, 32, 33, 34, 35], keys := [] } })], cuts := [], orders := [] })
    (cfg := { n := 40, own := [], lim := none, fns := [17, 39, 47] }) (args := [.slice aA an ac, .slice bA bn bc, .func (.func 47) #[] #[]]) (by kernel_rfl) (Bodies.cons Try.call17 (Bodies.cons Try.call39 (Bodies.cons Try.call47 Bodies.nil))) (Eq.mp (by kernel_rfl : MCombineLcm Try.prog aA an ac bA bn bc h K = _) hvc)

/-- what is asked of cmp.isNaN[int] -/
def IsNaNInt (P : Program) (x : Int) (h : Heap) (K : Value → Heap → Prop) : Prop :=
  K (.bool (x != x)) h
theorem IsNaNInt_ok {h : Heap} {K : Value → Heap → Prop} (x : Int) (hvc : IsNaNInt Try.prog x h K) : FCall Try.prog f_IsNaNInt #[I x] h K :=
  fn_sound Try.func50 (c := codeOf Try.f50) (by kernel_rfl) (rs := [.tmp 2]) (by kernel_rfl) (fa := { loops := [], cuts := [], orders := [] })
    (cfg := { n := 6, own := [], lim := none, fns := [] }) (args := [I x]) (by kernel_rfl) Bodies.nil (Eq.mp (by kernel_rfl : IsNaNInt Try.prog x h K = _) hvc)

end Go.Proofs.Ytlmdojkanhmioaa
