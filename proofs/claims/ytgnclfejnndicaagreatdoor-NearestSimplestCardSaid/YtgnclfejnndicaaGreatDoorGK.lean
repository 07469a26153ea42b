/-
  Texts of this proof, merged by a program of ours: VcN.
-/
import Derived.Test.YtgnclfejnndicaaGreatDoorProg
import Derived.Test.YtgnclfejnndicaaGreatDoorXLib
import Derived.Test.YtgnclfejnndicaaGreatDoorGF
import Derived.Test.YtgnclfejnndicaaGreatDoorGC
/-
  Written by wip/tools/vcgen.py: what is asked of each function's body; each equation is checked by the kernel.
-/
namespace Go.Proofs.YtgnclfejnndicaaGreatDoor
open Go
set_option maxRecDepth 100000
set_option linter.unusedVariables false

abbrev f_EIsInteger : Nat := 84
abbrev f_EInverse : Nat := 91
abbrev f_EQuotients : Nat := 74
abbrev f_EConvergents : Nat := 31
abbrev f_EBest : Nat := 43
abbrev f_ENearer : Nat := 85
abbrev f_EPower2 : Nat := 77
abbrev f_EDyadic : Nat := 39
abbrev f_EQuotients1 : Nat := 34
abbrev f_ESimplest : Nat := 60
abbrev f_ESimplest1 : Nat := 14
abbrev f_EAfter : Nat := 75
abbrev f_ENumber : Nat := 76
abbrev f_FOne : Nat := 65
abbrev f_FQuotients : Nat := 35
abbrev f_FConvergents : Nat := 38
abbrev f_FSimplest : Nat := 18
abbrev f_FBest : Nat := 44
abbrev f_FDistance : Nat := 86
abbrev f_FDyadic : Nat := 40
abbrev f_LKnown : Nat := 13
abbrev f_LDistance : Nat := 33
abbrev f_LNearestSimplest : Nat := 3
abbrev f_LNearestConverges : Nat := 5
abbrev f_LNearestQuotients : Nat := 6
abbrev f_PNew : Nat := 19
abbrev f_PNext : Nat := 22
abbrev f_GSameStrings : Nat := 36
abbrev f_LNearestBest : Nat := 8
abbrev f_LNearestOwn : Nat := 9
abbrev f_LNearestDyadic : Nat := 7
abbrev ty_tInts : Nat := 37
abbrev ty_tInts_e : Nat := 3
/-- what is asked of sosopt/nearest.inverse -/
def EInverse (P : Program) (q : ByteArray) (h : Heap) (K : Value → Heap → Prop) : Prop :=
  FCall P f_TDiv #[.string ({ data := #[49] } : ByteArray), .string q] h (fun r hp => ∃ (t7a : ByteArray) (t7b : Bool), r = .tuple #[.string t7a, .bool t7b] ∧ K (.string t7a) hp)
theorem EInverse_ok {h : Heap} {K : Value → Heap → Prop} (q : ByteArray) (hvc : EInverse Tryz.prog q h K) : FCall Tryz.prog f_EInverse #[.string q] h K :=
  fn_sound Tryz.func91 (c := codeOf Tryz.f91) (by kernel_rfl) (rs := [.tmp 2]) (by kernel_rfl) (fa := { loops := [], cuts := [], orders := [] })
    (cfg := { n := 11, own := [], lim := none, fns := [82], wr := [] }) (args := [.string q]) (by kernel_rfl) (Bodies.cons Tryz.call82 Bodies.nil) (Eq.mp (by kernel_rfl : EInverse Tryz.prog q h K = _) hvc)

/-- what is asked of sosopt/nearest.simplest -/
def ESimplest (P : Program) (lo : ByteArray) (hi : ByteArray) (h : Heap) (K : Value → Heap → Prop) : Prop :=
  FCall P f_TSign #[.string hi] h (fun r hp => ∃ (t9 : Int), r = I t9 ∧ Br (decide (t9 < (0 : Int))) (FCall P f_TNeg #[.string hi] hp (fun r1 hp1 => ∃ (t12 : ByteArray), r1 = .string t12 ∧ FCall P f_TNeg #[.string lo] hp1 (fun r2 hp2 => ∃ (t14 : ByteArray), r2 = .string t14 ∧ FCall P f_ESimplest #[.string t12, .string t14] hp2 (fun r3 hp3 => ∃ (t15 : ByteArray), r3 = .string t15 ∧ FCall P f_TNeg #[.string t15] hp3 (fun r4 hp4 => ∃ (t16 : ByteArray), r4 = .string t16 ∧ K (.string t16) hp4)))))
  (FCall P f_TSign #[.string lo] hp (fun r5 hp5 => ∃ (t19 : Int), r5 = I t19 ∧ Br (decide (t19 ≤ (0 : Int))) (K (.string ({ data := #[48] } : ByteArray)) hp5)
  (FCall P f_TCeil #[.string lo] hp5 (fun r6 hp6 => ∃ (t22 : ByteArray), r6 = .string t22 ∧ FCall P f_TCompare #[.string t22, .string hi] hp6 (fun r7 hp7 => ∃ (t25 : Int), r7 = I t25 ∧ Br (decide (t25 ≤ (0 : Int))) (K (.string t22) hp7)
  (FCall P f_TFloor #[.string lo] hp7 (fun r8 hp8 => ∃ (t28 : ByteArray), r8 = .string t28 ∧ FCall P f_TSub #[.string hi, .string t28] hp8 (fun r9 hp9 => ∃ (t31 : ByteArray), r9 = .string t31 ∧ FCall P f_EInverse #[.string t31] hp9 (fun r10 hp10 => ∃ (t32 : ByteArray), r10 = .string t32 ∧ FCall P f_TSub #[.string lo, .string t28] hp10 (fun r11 hp11 => ∃ (t35 : ByteArray), r11 = .string t35 ∧ FCall P f_EInverse #[.string t35] hp11 (fun r12 hp12 => ∃ (t36 : ByteArray), r12 = .string t36 ∧ FCall P f_ESimplest #[.string t32, .string t36] hp12 (fun r13 hp13 => ∃ (t37 : ByteArray), r13 = .string t37 ∧ FCall P f_EInverse #[.string t37] hp13 (fun r14 hp14 => ∃ (t40 : ByteArray), r14 = .string t40 ∧ FCall P f_TAdd #[.string t28, .string t40] hp14 (fun r15 hp15 => ∃ (t41 : ByteArray), r15 = .string t41 ∧ K (.string t41) hp15)))))))))))))))
theorem ESimplest_ok {h : Heap} {K : Value → Heap → Prop} (lo : ByteArray) (hi : ByteArray) (hvc : ESimplest Tryz.prog lo hi h K) : FCall Tryz.prog f_ESimplest #[.string lo, .string hi] h K :=
  fn_sound Tryz.func60 (c := codeOf Tryz.f60) (by kernel_rfl) (rs := [.tmp 4]) (by kernel_rfl) (fa := { loops := [], cuts := [], orders := [] })
    (cfg := { n := 42, own := [], lim := none, fns := [59, 60, 78, 80, 81, 91, 109, 110, 111], wr := [] }) (args := [.string lo, .string hi]) (by kernel_rfl) (Bodies.cons Tryz.call59 (Bodies.cons Tryz.call60 (Bodies.cons Tryz.call78 (Bodies.cons Tryz.call80 (Bodies.cons Tryz.call81 (Bodies.cons Tryz.call91 (Bodies.cons Tryz.call109 (Bodies.cons Tryz.call110 (Bodies.cons Tryz.call111 Bodies.nil))))))))) (Eq.mp (by kernel_rfl : ESimplest Tryz.prog lo hi h K = _) hvc)

/-- what is asked of sosopt/nearest.Simplest -/
def ESimplest1 (P : Program) (lo : ByteArray) (hi : ByteArray) (h : Heap) (K : Value → Heap → Prop) : Prop :=
  ∃ (Jv : List Value → Heap → Prop), (FCall P f_TValid #[.string lo] h (fun r hp => ∃ (t7 : Bool), r = .bool t7 ∧ Br (!t7) (Jv [.bool true] hp)
  (FCall P f_TValid #[.string hi] hp (fun r1 hp1 => ∃ (t11 : Bool), r1 = .bool t11 ∧ Jv [.bool (!t11)] hp1)))) ∧
  ∀ (t13 : Bool), ∀ hp2, Jv [.bool t13] hp2 → Br t13 (K (.tuple #[.string ({ data := #[] } : ByteArray), I (1 : Int)]) hp2)
  (FCall P f_TCompare #[.string hi, .string lo] hp2 (fun r2 hp3 => ∃ (t16 : Int), r2 = I t16 ∧ Br (decide (t16 < (0 : Int))) (K (.tuple #[.string ({ data := #[] } : ByteArray), I (3 : Int)]) hp3)
  (FCall P f_ESimplest #[.string lo, .string hi] hp3 (fun r3 hp4 => ∃ (t20 : ByteArray), r3 = .string t20 ∧ K (.tuple #[.string t20, I (0 : Int)]) hp4))))
theorem ESimplest1_ok {h : Heap} {K : Value → Heap → Prop} (lo : ByteArray) (hi : ByteArray) (hvc : ESimplest1 Tryz.prog lo hi h K) : FCall Tryz.prog f_ESimplest1 #[.string lo, .string hi] h K :=
  fn_sound Tryz.func14 (c := codeOf Tryz.f14) (by kernel_rfl) (rs := [.tmp 4, .tmp 5]) (by kernel_rfl) (fa := { loops := [], cuts := [(2, { slots := [13], owns := [], zs := [.bool false], lim := { slots := [6, 7, 8, 9, 10, 11, 12, 13], keys := [] } })], orders := [] })
    (cfg := { n := 21, own := [], lim := none, fns := [58, 59, 60], wr := [] }) (args := [.string lo, .string hi]) (by kernel_rfl) (Bodies.cons Tryz.call58 (Bodies.cons Tryz.call59 (Bodies.cons Tryz.call60 Bodies.nil))) (Eq.mp (by kernel_rfl : ESimplest1 Tryz.prog lo hi h K = _) hvc)

/-- what is asked of sosopt/sosoptref28.One -/
def FOne (P : Program)  (h : Heap) (K : Value → Heap → Prop) : Prop :=
  FCall P f_NR #[I (1 : Int)] h (fun r hp => ∃ (t10 : Bool) (t11A : Option Addr) (t11n : Nat) (t11c : Nat) (t12 : Bool) (t13A : Option Addr) (t13n : Nat) (t13c : Nat), r = .agg #[.bool t10, .slice t11A t11n t11c, .bool t12, .slice t13A t13n t13c] ∧ K (.agg #[.bool t10, .slice t11A t11n t11c, .bool t12, .slice t13A t13n t13c]) hp)
theorem FOne_ok {h : Heap} {K : Value → Heap → Prop}  (hvc : FOne Tryz.prog  h K) : FCall Tryz.prog f_FOne #[] h K :=
  fn_sound Tryz.func65 (c := codeOf Tryz.f65) (by kernel_rfl) (rs := [.cell 0 30]) (by kernel_rfl) (fa := { loops := [], cuts := [], orders := [] })
    (cfg := { n := 2, own := [0], lim := none, fns := [30], wr := [] }) (args := []) (by kernel_rfl) (Bodies.cons Tryz.call30 Bodies.nil) (Eq.mp (by kernel_rfl : FOne Tryz.prog  h K = _) hvc)

/-- what is asked of sosopt/sosoptref28.Simplest -/
def FSimplest (P : Program) (lo0 : Bool) (lo1A : Option Addr) (lo1n : Nat) (lo1c : Nat) (lo2 : Bool) (lo3A : Option Addr) (lo3n : Nat) (lo3c : Nat) (hi0 : Bool) (hi1A : Option Addr) (hi1n : Nat) (hi1c : Nat) (hi2 : Bool) (hi3A : Option Addr) (hi3n : Nat) (hi3c : Nat) (h : Heap) (K : Value → Heap → Prop) : Prop :=
  ∃ (Jv : List Value → Heap → Prop), (FCall P f_NRSign #[.agg #[.bool lo0, .slice lo1A lo1n lo1c, .bool lo2, .slice lo3A lo3n lo3c]] h (fun r hp => ∃ (t9 : Int), r = I t9 ∧ Br (decide (t9 ≤ (0 : Int))) (FCall P f_NRSign #[.agg #[.bool hi0, .slice hi1A hi1n hi1c, .bool hi2, .slice hi3A hi3n hi3c]] hp (fun r1 hp1 => ∃ (t13 : Int), r1 = I t13 ∧ Jv [.bool (decide (t13 ≥ (0 : Int)))] hp1))
  (Jv [.bool false] hp))) ∧
  ∀ (t15 : Bool), ∀ hp2, Jv [.bool t15] hp2 → Br t15 (K (.agg #[.bool false, .slice none 0 0, .bool false, .slice none 0 0]) hp2)
  (FCall P f_NRSign #[.agg #[.bool hi0, .slice hi1A hi1n hi1c, .bool hi2, .slice hi3A hi3n hi3c]] hp2 (fun r2 hp3 => ∃ (t18 : Int), r2 = I t18 ∧ Br (decide (t18 < (0 : Int))) (FCall P f_NRNeg #[.agg #[.bool hi0, .slice hi1A hi1n hi1c, .bool hi2, .slice hi3A hi3n hi3c]] hp3 (fun r3 hp4 => ∃ (t210 : Bool) (t211A : Option Addr) (t211n : Nat) (t211c : Nat) (t212 : Bool) (t213A : Option Addr) (t213n : Nat) (t213c : Nat), r3 = .agg #[.bool t210, .slice t211A t211n t211c, .bool t212, .slice t213A t213n t213c] ∧ Heap.le hp3 hp4 ∧ FCall P f_NRNeg #[.agg #[.bool lo0, .slice lo1A lo1n lo1c, .bool lo2, .slice lo3A lo3n lo3c]] hp4 (fun r4 hp5 => ∃ (t230 : Bool) (t231A : Option Addr) (t231n : Nat) (t231c : Nat) (t232 : Bool) (t233A : Option Addr) (t233n : Nat) (t233c : Nat), r4 = .agg #[.bool t230, .slice t231A t231n t231c, .bool t232, .slice t233A t233n t233c] ∧ Heap.le hp4 hp5 ∧ FCall P f_FSimplest #[.agg #[.bool t210, .slice t211A t211n t211c, .bool t212, .slice t213A t213n t213c], .agg #[.bool t230, .slice t231A t231n t231c, .bool t232, .slice t233A t233n t233c]] hp5 (fun r5 hp6 => ∃ (t240 : Bool) (t241A : Option Addr) (t241n : Nat) (t241c : Nat) (t242 : Bool) (t243A : Option Addr) (t243n : Nat) (t243c : Nat), r5 = .agg #[.bool t240, .slice t241A t241n t241c, .bool t242, .slice t243A t243n t243c] ∧ Heap.le hp5 hp6 ∧ FCall P f_NRNeg #[.agg #[.bool t240, .slice t241A t241n t241c, .bool t242, .slice t243A t243n t243c]] hp6 (fun r6 hp7 => ∃ (t250 : Bool) (t251A : Option Addr) (t251n : Nat) (t251c : Nat) (t252 : Bool) (t253A : Option Addr) (t253n : Nat) (t253c : Nat), r6 = .agg #[.bool t250, .slice t251A t251n t251c, .bool t252, .slice t253A t253n t253c] ∧ Heap.le hp6 hp7 ∧ K (.agg #[.bool t250, .slice t251A t251n t251c, .bool t252, .slice t253A t253n t253c]) hp7)))))
  (FCall P f_NFloor #[.agg #[.bool lo0, .slice lo1A lo1n lo1c, .bool lo2, .slice lo3A lo3n lo3c]] hp3 (fun r7 hp8 => ∃ (t270 : Bool) (t271A : Option Addr) (t271n : Nat) (t271c : Nat), r7 = .agg #[.bool t270, .slice t271A t271n t271c] ∧ FCall P f_NRCmp #[.agg #[.bool t270, .slice t271A t271n t271c, .bool false, .slice none 0 0], .agg #[.bool lo0, .slice lo1A lo1n lo1c, .bool lo2, .slice lo3A lo3n lo3c]] hp8 (fun r8 hp9 => ∃ (t31 : Int), r8 = I t31 ∧ Br (t31 == (0 : Int)) (K (.agg #[.bool t270, .slice t271A t271n t271c, .bool false, .slice none 0 0]) hp9)
  (FCall P f_FOne #[] hp9 (fun r9 hp10 => ∃ (t350 : Bool) (t351A : Option Addr) (t351n : Nat) (t351c : Nat) (t352 : Bool) (t353A : Option Addr) (t353n : Nat) (t353c : Nat), r9 = .agg #[.bool t350, .slice t351A t351n t351c, .bool t352, .slice t353A t353n t353c] ∧ Heap.le hp9 hp10 ∧ FCall P f_NRAdd #[.agg #[.bool t270, .slice t271A t271n t271c, .bool false, .slice none 0 0], .agg #[.bool t350, .slice t351A t351n t351c, .bool t352, .slice t353A t353n t353c]] hp10 (fun r10 hp11 => ∃ (t360 : Bool) (t361A : Option Addr) (t361n : Nat) (t361c : Nat) (t362 : Bool) (t363A : Option Addr) (t363n : Nat) (t363c : Nat), r10 = .agg #[.bool t360, .slice t361A t361n t361c, .bool t362, .slice t363A t363n t363c] ∧ Heap.le hp10 hp11 ∧ FCall P f_NRCmp #[.agg #[.bool t360, .slice t361A t361n t361c, .bool t362, .slice t363A t363n t363c], .agg #[.bool hi0, .slice hi1A hi1n hi1c, .bool hi2, .slice hi3A hi3n hi3c]] hp11 (fun r11 hp12 => ∃ (t39 : Int), r11 = I t39 ∧ Br (decide (t39 ≤ (0 : Int))) (K (.agg #[.bool t360, .slice t361A t361n t361c, .bool t362, .slice t363A t363n t363c]) hp12)
  (FCall P f_FOne #[] hp12 (fun r12 hp13 => ∃ (t420 : Bool) (t421A : Option Addr) (t421n : Nat) (t421c : Nat) (t422 : Bool) (t423A : Option Addr) (t423n : Nat) (t423c : Nat), r12 = .agg #[.bool t420, .slice t421A t421n t421c, .bool t422, .slice t423A t423n t423c] ∧ Heap.le hp12 hp13 ∧ FCall P f_NRSub #[.agg #[.bool hi0, .slice hi1A hi1n hi1c, .bool hi2, .slice hi3A hi3n hi3c], .agg #[.bool t270, .slice t271A t271n t271c, .bool false, .slice none 0 0]] hp13 (fun r13 hp14 => ∃ (t450 : Bool) (t451A : Option Addr) (t451n : Nat) (t451c : Nat) (t452 : Bool) (t453A : Option Addr) (t453n : Nat) (t453c : Nat), r13 = .agg #[.bool t450, .slice t451A t451n t451c, .bool t452, .slice t453A t453n t453c] ∧ Heap.le hp13 hp14 ∧ FCall P f_NRDiv #[.agg #[.bool t420, .slice t421A t421n t421c, .bool t422, .slice t423A t423n t423c], .agg #[.bool t450, .slice t451A t451n t451c, .bool t452, .slice t453A t453n t453c]] hp14 (fun r14 hp15 => ∃ (t460 : Bool) (t461A : Option Addr) (t461n : Nat) (t461c : Nat) (t462 : Bool) (t463A : Option Addr) (t463n : Nat) (t463c : Nat), r14 = .agg #[.bool t460, .slice t461A t461n t461c, .bool t462, .slice t463A t463n t463c] ∧ Heap.le hp14 hp15 ∧ FCall P f_FOne #[] hp15 (fun r15 hp16 => ∃ (t470 : Bool) (t471A : Option Addr) (t471n : Nat) (t471c : Nat) (t472 : Bool) (t473A : Option Addr) (t473n : Nat) (t473c : Nat), r15 = .agg #[.bool t470, .slice t471A t471n t471c, .bool t472, .slice t473A t473n t473c] ∧ Heap.le hp15 hp16 ∧ FCall P f_NRSub #[.agg #[.bool lo0, .slice lo1A lo1n lo1c, .bool lo2, .slice lo3A lo3n lo3c], .agg #[.bool t270, .slice t271A t271n t271c, .bool false, .slice none 0 0]] hp16 (fun r16 hp17 => ∃ (t500 : Bool) (t501A : Option Addr) (t501n : Nat) (t501c : Nat) (t502 : Bool) (t503A : Option Addr) (t503n : Nat) (t503c : Nat), r16 = .agg #[.bool t500, .slice t501A t501n t501c, .bool t502, .slice t503A t503n t503c] ∧ Heap.le hp16 hp17 ∧ FCall P f_NRDiv #[.agg #[.bool t470, .slice t471A t471n t471c, .bool t472, .slice t473A t473n t473c], .agg #[.bool t500, .slice t501A t501n t501c, .bool t502, .slice t503A t503n t503c]] hp17 (fun r17 hp18 => ∃ (t510 : Bool) (t511A : Option Addr) (t511n : Nat) (t511c : Nat) (t512 : Bool) (t513A : Option Addr) (t513n : Nat) (t513c : Nat), r17 = .agg #[.bool t510, .slice t511A t511n t511c, .bool t512, .slice t513A t513n t513c] ∧ Heap.le hp17 hp18 ∧ FCall P f_FSimplest #[.agg #[.bool t460, .slice t461A t461n t461c, .bool t462, .slice t463A t463n t463c], .agg #[.bool t510, .slice t511A t511n t511c, .bool t512, .slice t513A t513n t513c]] hp18 (fun r18 hp19 => ∃ (t520 : Bool) (t521A : Option Addr) (t521n : Nat) (t521c : Nat) (t522 : Bool) (t523A : Option Addr) (t523n : Nat) (t523c : Nat), r18 = .agg #[.bool t520, .slice t521A t521n t521c, .bool t522, .slice t523A t523n t523c] ∧ Heap.le hp18 hp19 ∧ FCall P f_FOne #[] hp19 (fun r19 hp20 => ∃ (t540 : Bool) (t541A : Option Addr) (t541n : Nat) (t541c : Nat) (t542 : Bool) (t543A : Option Addr) (t543n : Nat) (t543c : Nat), r19 = .agg #[.bool t540, .slice t541A t541n t541c, .bool t542, .slice t543A t543n t543c] ∧ Heap.le hp19 hp20 ∧ FCall P f_NRDiv #[.agg #[.bool t540, .slice t541A t541n t541c, .bool t542, .slice t543A t543n t543c], .agg #[.bool t520, .slice t521A t521n t521c, .bool t522, .slice t523A t523n t523c]] hp20 (fun r20 hp21 => ∃ (t560 : Bool) (t561A : Option Addr) (t561n : Nat) (t561c : Nat) (t562 : Bool) (t563A : Option Addr) (t563n : Nat) (t563c : Nat), r20 = .agg #[.bool t560, .slice t561A t561n t561c, .bool t562, .slice t563A t563n t563c] ∧ Heap.le hp20 hp21 ∧ FCall P f_NRAdd #[.agg #[.bool t270, .slice t271A t271n t271c, .bool false, .slice none 0 0], .agg #[.bool t560, .slice t561A t561n t561c, .bool t562, .slice t563A t563n t563c]] hp21 (fun r21 hp22 => ∃ (t570 : Bool) (t571A : Option Addr) (t571n : Nat) (t571c : Nat) (t572 : Bool) (t573A : Option Addr) (t573n : Nat) (t573c : Nat), r21 = .agg #[.bool t570, .slice t571A t571n t571c, .bool t572, .slice t573A t573n t573c] ∧ Heap.le hp21 hp22 ∧ K (.agg #[.bool t570, .slice t571A t571n t571c, .bool t572, .slice t573A t573n t573c]) hp22))))))))))))))))))))
theorem FSimplest_ok {h : Heap} {K : Value → Heap → Prop} (lo0 : Bool) (lo1A : Option Addr) (lo1n : Nat) (lo1c : Nat) (lo2 : Bool) (lo3A : Option Addr) (lo3n : Nat) (lo3c : Nat) (hi0 : Bool) (hi1A : Option Addr) (hi1n : Nat) (hi1c : Nat) (hi2 : Bool) (hi3A : Option Addr) (hi3n : Nat) (hi3c : Nat) (hvc : FSimplest Tryz.prog lo0 lo1A lo1n lo1c lo2 lo3A lo3n lo3c hi0 hi1A hi1n hi1c hi2 hi3A hi3n hi3c h K) : FCall Tryz.prog f_FSimplest #[.agg #[.bool lo0, .slice lo1A lo1n lo1c, .bool lo2, .slice lo3A lo3n lo3c], .agg #[.bool hi0, .slice hi1A hi1n hi1c, .bool hi2, .slice hi3A hi3n hi3c]] h K :=
  fn_sound Tryz.func18 (c := codeOf Tryz.f18) (by kernel_rfl) (rs := [.cell 4 30]) (by kernel_rfl) (fa := { loops := [], cuts := [(2, { slots := [15], owns := [], zs := [.bool false], lim := { slots := [8, 9, 10, 11, 12, 13, 14, 15], keys := [] } })], orders := [(4, ([0, 2, 1, 3, 4, 5, 6], [[], [0], [], [0, 1, 2], [0, 1, 2, 3], [0, 1, 2, 3, 4], [0, 1, 2, 3, 4, 5]])), (8, ([0, 3, 1, 2, 4], [[], [], [0, 1], [], [0, 1, 2, 3]])), (11, ([1, 2, 6, 7, 11, 0, 3, 4, 5, 8, 9, 10, 12], [[], [], [], [0, 1, 2], [0, 1, 2, 3], [0, 1, 2, 3, 4], [], [], [0, 1, 2, 3, 4, 5, 6, 7], [0, 1, 2, 3, 4, 5, 6, 7, 8], [0, 1, 2, 3, 4, 5, 6, 7, 8, 9], [], [0, 1, 2, 3, 4, 5, 6, 7, 8, 9, 10, 11]])), (12, ([0, 2, 1, 3, 4, 5], [[], [], [], [1, 2], [0, 1, 2, 3], [0, 1, 2, 3, 4]]))] })
    (cfg := { n := 58, own := [2, 3, 4, 5, 6, 7], lim := none, fns := [16, 18, 23, 27, 28, 41, 53, 65, 66], wr := [] }) (args := [.agg #[.bool lo0, .slice lo1A lo1n lo1c, .bool lo2, .slice lo3A lo3n lo3c], .agg #[.bool hi0, .slice hi1A hi1n hi1c, .bool hi2, .slice hi3A hi3n hi3c]]) (by kernel_rfl) (Bodies.cons Tryz.call16 (Bodies.cons Tryz.call18 (Bodies.cons Tryz.call23 (Bodies.cons Tryz.call27 (Bodies.cons Tryz.call28 (Bodies.cons Tryz.call41 (Bodies.cons Tryz.call53 (Bodies.cons Tryz.call65 (Bodies.cons Tryz.call66 Bodies.nil))))))))) (Eq.mp (by kernel_rfl : FSimplest Tryz.prog lo0 lo1A lo1n lo1c lo2 lo3A lo3n lo3c hi0 hi1A hi1n hi1c hi2 hi3A hi3n hi3c h K = _) hvc)

/-- what is asked of sosopt/sosoptlaw28.known -/
def LKnown (P : Program)  (h : Heap) (K : Value → Heap → Prop) : Prop :=
  FCall P f_ESimplest1 #[.string ({ data := #[51, 47, 49, 48] } : ByteArray), .string ({ data := #[50, 47, 53] } : ByteArray)] h (fun r hp => ∃ (t4a : ByteArray) (t4b : Int), r = .tuple #[.string t4a, I t4b] ∧ Br (t4b == (0 : Int)) (K (.bool (ByteArray.toList t4a == ByteArray.toList ({ data := #[49, 47, 51] } : ByteArray))) hp)
  (K (.bool false) hp))
theorem LKnown_ok {h : Heap} {K : Value → Heap → Prop}  (hvc : LKnown Tryz.prog  h K) : FCall Tryz.prog f_LKnown #[] h K :=
  fn_sound Tryz.func13 (c := codeOf Tryz.f13) (by kernel_rfl) (rs := [.tmp 0]) (by kernel_rfl) (fa := { loops := [], cuts := [], orders := [] })
    (cfg := { n := 13, own := [], lim := none, fns := [14], wr := [] }) (args := []) (by kernel_rfl) (Bodies.cons Tryz.call14 Bodies.nil) (Eq.mp (by kernel_rfl : LKnown Tryz.prog  h K = _) hvc)

/-- what is asked of sosopt/sosoptlaw28.NearestSimplest -/
def LNearestSimplest (P : Program) (lo : ByteArray) (hi : ByteArray) (h : Heap) (K : Value → Heap → Prop) : Prop :=
  ∃ (Jv : List Value → Heap → Prop), (Br (decide (((ByteArray.size lo : Nat) : Int) > (60 : Int))) (Jv [.bool true] h)
  (Jv [.bool (decide (((ByteArray.size hi : Nat) : Int) > (60 : Int)))] h)) ∧
  ∀ (t18 : Bool), ∀ hp, Jv [.bool t18] hp → Br t18 (FCall P f_LKnown #[] hp (fun r hp1 => ∃ (t19 : Bool), r = .bool t19 ∧ K (.bool t19) hp1))
  (FCall P f_ESimplest1 #[.string lo, .string hi] hp (fun r1 hp2 => ∃ (t23a : ByteArray) (t23b : Int), r1 = .tuple #[.string t23a, I t23b] ∧ FCall P f_NRead #[.string lo] hp2 (fun r2 hp3 => ∃ (t28a0 : Bool) (t28a1A : Option Addr) (t28a1n : Nat) (t28a1c : Nat) (t28a2 : Bool) (t28a3A : Option Addr) (t28a3n : Nat) (t28a3c : Nat) (t28b : Bool), r2 = .tuple #[.agg #[.bool t28a0, .slice t28a1A t28a1n t28a1c, .bool t28a2, .slice t28a3A t28a3n t28a3c], .bool t28b] ∧ FCall P f_NRead #[.string hi] hp3 (fun r3 hp4 => ∃ (t33a0 : Bool) (t33a1A : Option Addr) (t33a1n : Nat) (t33a1c : Nat) (t33a2 : Bool) (t33a3A : Option Addr) (t33a3n : Nat) (t33a3c : Nat) (t33b : Bool), r3 = .tuple #[.agg #[.bool t33a0, .slice t33a1A t33a1n t33a1c, .bool t33a2, .slice t33a3A t33a3n t33a3c], .bool t33b] ∧ ∃ (Jv1 : List Value → Heap → Prop), (Br (!t28b) (Jv1 [.bool true] hp4)
  (Jv1 [.bool (!t33b)] hp4)) ∧
  ∀ (t41 : Bool), ∀ hp5, Jv1 [.bool t41] hp5 → Br t41 (FCall P f_LKnown #[] hp5 (fun r4 hp6 => ∃ (t42 : Bool), r4 = .bool t42 ∧ Br t42 (Br (t23b == (1 : Int)) (K (.bool (ByteArray.toList t23a == ByteArray.toList ({ data := #[] } : ByteArray))) hp6)
  (K (.bool false) hp6))
  (K (.bool false) hp6)))
  (FCall P f_NRCmp #[.agg #[.bool t28a0, .slice t28a1A t28a1n t28a1c, .bool t28a2, .slice t28a3A t28a3n t28a3c], .agg #[.bool t33a0, .slice t33a1A t33a1n t33a1c, .bool t33a2, .slice t33a3A t33a3n t33a3c]] hp5 (fun r5 hp7 => ∃ (t53 : Int), r5 = I t53 ∧ Br (decide (t53 > (0 : Int))) (FCall P f_LKnown #[] hp7 (fun r6 hp8 => ∃ (t55 : Bool), r6 = .bool t55 ∧ Br t55 (Br (t23b == (3 : Int)) (K (.bool (ByteArray.toList t23a == ByteArray.toList ({ data := #[] } : ByteArray))) hp8)
  (K (.bool false) hp8))
  (K (.bool false) hp8)))
  (FCall P f_LKnown #[] hp7 (fun r7 hp9 => ∃ (t64 : Bool), r7 = .bool t64 ∧ Br t64 (Br (t23b == (0 : Int)) (FCall P f_FSimplest #[.agg #[.bool t28a0, .slice t28a1A t28a1n t28a1c, .bool t28a2, .slice t28a3A t28a3n t28a3c], .agg #[.bool t33a0, .slice t33a1A t33a1n t33a1c, .bool t33a2, .slice t33a3A t33a3n t33a3c]] hp9 (fun r8 hp10 => ∃ (t730 : Bool) (t731A : Option Addr) (t731n : Nat) (t731c : Nat) (t732 : Bool) (t733A : Option Addr) (t733n : Nat) (t733c : Nat), r8 = .agg #[.bool t730, .slice t731A t731n t731c, .bool t732, .slice t733A t733n t733c] ∧ FCall P f_NText #[.agg #[.bool t730, .slice t731A t731n t731c, .bool t732, .slice t733A t733n t733c]] hp10 (fun r9 hp11 => ∃ (t74 : ByteArray), r9 = .string t74 ∧ K (.bool (ByteArray.toList t23a == ByteArray.toList t74)) hp11)))
  (K (.bool false) hp9))
  (K (.bool false) hp9)))))))))
theorem LNearestSimplest_ok {h : Heap} {K : Value → Heap → Prop} (lo : ByteArray) (hi : ByteArray) (hvc : LNearestSimplest Tryz.prog lo hi h K) : FCall Tryz.prog f_LNearestSimplest #[.string lo, .string hi] h K :=
  fn_sound Tryz.func3 (c := codeOf Tryz.f3) (by kernel_rfl) (rs := [.tmp 4]) (by kernel_rfl) (fa := { loops := [], cuts := [(2, { slots := [18], owns := [], zs := [.bool false], lim := { slots := [11, 12, 13, 14, 15, 16, 17, 18], keys := [] } }), (7, { slots := [41], owns := [], zs := [.bool false], lim := { slots := [36, 37, 38, 39, 40, 41], keys := [] } })], orders := [] })
    (cfg := { n := 77, own := [7, 9], lim := none, fns := [13, 14, 15, 16, 17, 18], wr := [] }) (args := [.string lo, .string hi]) (by kernel_rfl) (Bodies.cons Tryz.call13 (Bodies.cons Tryz.call14 (Bodies.cons Tryz.call15 (Bodies.cons Tryz.call16 (Bodies.cons Tryz.call17 (Bodies.cons Tryz.call18 Bodies.nil)))))) (Eq.mp (by kernel_rfl : LNearestSimplest Tryz.prog lo hi h K = _) hvc)

end Go.Proofs.YtgnclfejnndicaaGreatDoor
