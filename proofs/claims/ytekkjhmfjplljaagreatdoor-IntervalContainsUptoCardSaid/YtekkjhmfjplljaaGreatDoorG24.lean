/-
  Texts of this proof, merged by a program of ours: VcV.
-/
import Derived.Test.YtekkjhmfjplljaaGreatDoorProg
import Derived.Test.YtekkjhmfjplljaaGreatDoorG05
import Derived.Test.YtekkjhmfjplljaaGreatDoorG08
import Derived.Test.YtekkjhmfjplljaaGreatDoorG19
/-
  Written by wip/tools/vcgen.py: what is asked of each function's body; each equation is checked by the kernel.
-/
namespace Go.Proofs.YtekkjhmfjplljaaGreatDoor
open Go
set_option maxRecDepth 100000
set_option linter.unusedVariables false
variable {h : Heap} {K : Value -> Heap -> Prop}
abbrev f_IvLeast : Nat := 74
abbrev f_IvGreatest : Nat := 73
abbrev f_IvSpan : Nat := 114
abbrev f_IvValid : Nat := 23
abbrev f_IvContains : Nat := 26
abbrev f_IvWidth : Nat := 36
abbrev f_IvMiddle : Nat := 38
abbrev f_IvAdd1 : Nat := 98
abbrev f_IvMul1 : Nat := 99
abbrev f_IvPow1 : Nat := 62
abbrev f_IvNeg : Nat := 48
abbrev f_IvAdd : Nat := 41
abbrev f_IvSub : Nat := 42
abbrev f_IvMul : Nat := 43
abbrev f_IvDiv : Nat := 45
abbrev f_IvPow : Nat := 13
abbrev f_IvPower2 : Nat := 64
abbrev f_IvRoundOut : Nat := 15
abbrev f_IvPoint : Nat := 105
abbrev f_RfRead : Nat := 34
abbrev f_RfWrite : Nat := 49
abbrev f_RfSpan : Nat := 76
abbrev f_RfPlus : Nat := 51
abbrev f_RfMinus : Nat := 50
abbrev f_RfTimes : Nat := 52
abbrev f_RfHas : Nat := 94
abbrev f_RfPower : Nat := 63
abbrev f_RfContains : Nat := 35
abbrev f_RfWidth : Nat := 37
abbrev f_RfMiddle : Nat := 39
abbrev f_RfPair : Nat := 46
abbrev f_RfDiv : Nat := 47
abbrev f_RfPow : Nat := 14
abbrev f_RfIntersect : Nat := 19
abbrev f_RfHull : Nat := 21
abbrev f_RfRoundOut : Nat := 16
abbrev f_RfPower01 : Nat := 115
abbrev f_KpShort : Nat := 11
abbrev f_KpMod : Nat := 24
abbrev f_LAwake : Nat := 12
abbrev f_LShort : Nat := 17
abbrev f_LOrdered : Nat := 22
abbrev f_LNear : Nat := 40
abbrev f_LIntervalBasics : Nat := 6
abbrev f_LIntervalArithmetic : Nat := 8
abbrev f_LIntervalPow : Nat := 3
abbrev f_LIntervalContains : Nat := 7
abbrev f_LIntervalRounding : Nat := 5
abbrev ty_tIvs : Nat := 68
abbrev ty_tIvs_e : Nat := 23
theorem tIvs : SliceT Tryz.prog ty_tIvs ty_tIvs_e (.agg #[.string ({ data := #[] } : ByteArray), .string ({ data := #[] } : ByteArray)]) 2 32 := ⟨by kernel_rfl, by kernel_rfl, rfl, by decide⟩
def IvLeast (P : Program) (l : ByteArray) (m : OA) (i o : Nat) (h : Heap) (K : Value -> Heap -> Prop) : Prop :=
  ∃ (d : List Value -> Heap -> Prop) (e : List Value -> Heap -> Nat), d [.string l, I 0] h /\
  ∀ (b : ByteArray) (a : Int), ∀ c, d [.string b, I a] c -> Br (decide (a < (i : Int))) (∃ k, m = some k /\ 0 <= a /\ a < (i : Int) /\ ∃ (f : ByteArray), Heap.cell? c (Addr.add k ((a).toNat * 1)) = some (.string f) /\ FCall P f_TCompare #[.string f, .string b] c (fun n g => ∃ (j : Int), n = I j /\ Br (decide (j < (0 : Int))) (d [.string f, I (wi64 (a + 1))] g /\ e [.string f, I (wi64 (a + 1))] g < e [.string b, I a] c)
  (d [.string b, I (wi64 (a + 1))] g /\ e [.string b, I (wi64 (a + 1))] g < e [.string b, I a] c)))
  (K (.string b) c)
theorem IvLeast_ok (a : ByteArray) (b : OA) (d e : Nat) (hvc : IvLeast Tryz.prog a b d e h K) : FCall Tryz.prog f_IvLeast #[.string a, .slice b d e] h K :=
  fn_sound Tryz.func74 (c := codeOf Tryz.f74) (by kernel_rfl) (rs := [.tmp 4]) (by kernel_rfl) (fa := { loops := [(2, { slots := [0, 9], owns := [], zs := [.string ⟨#[]⟩, .int .i64 0], lim := { slots := [0, 6, 9, 10, 11, 12, 13, 14, 15, 16, 17, 18], keys := [] } })], cuts := [], orders := [] })
    (cfg := { n := 20, own := [], lim := none, fns := [29], wr := [] }) (args := [.string a, .slice b d e]) (by kernel_rfl) (Bodies.cons Tryz.call29 Bodies.nil) (Eq.mp (by kernel_rfl : IvLeast Tryz.prog a b d e h K = _) hvc)
def IvGreatest (P : Program) (l : ByteArray) (m : OA) (i o : Nat) (h : Heap) (K : Value -> Heap -> Prop) : Prop :=
  ∃ (d : List Value -> Heap -> Prop) (e : List Value -> Heap -> Nat), d [.string l, I 0] h /\
  ∀ (b : ByteArray) (a : Int), ∀ c, d [.string b, I a] c -> Br (decide (a < (i : Int))) (∃ k, m = some k /\ 0 <= a /\ a < (i : Int) /\ ∃ (f : ByteArray), Heap.cell? c (Addr.add k ((a).toNat * 1)) = some (.string f) /\ FCall P f_TCompare #[.string f, .string b] c (fun n g => ∃ (j : Int), n = I j /\ Br (decide (j > (0 : Int))) (d [.string f, I (wi64 (a + 1))] g /\ e [.string f, I (wi64 (a + 1))] g < e [.string b, I a] c)
  (d [.string b, I (wi64 (a + 1))] g /\ e [.string b, I (wi64 (a + 1))] g < e [.string b, I a] c)))
  (K (.string b) c)
theorem IvGreatest_ok (a : ByteArray) (b : OA) (d e : Nat) (hvc : IvGreatest Tryz.prog a b d e h K) : FCall Tryz.prog f_IvGreatest #[.string a, .slice b d e] h K :=
  fn_sound Tryz.func73 (c := codeOf Tryz.f73) (by kernel_rfl) (rs := [.tmp 4]) (by kernel_rfl) (fa := { loops := [(2, { slots := [0, 9], owns := [], zs := [.string ⟨#[]⟩, .int .i64 0], lim := { slots := [0, 6, 9, 10, 11, 12, 13, 14, 15, 16, 17, 18], keys := [] } })], cuts := [], orders := [] })
    (cfg := { n := 20, own := [], lim := none, fns := [29], wr := [] }) (args := [.string a, .slice b d e]) (by kernel_rfl) (Bodies.cons Tryz.call29 Bodies.nil) (Eq.mp (by kernel_rfl : IvGreatest Tryz.prog a b d e h K = _) hvc)
def IvSpan (P : Program) (a : ByteArray) (b : OA) (c d : Nat) (h : Heap) (K : Value -> Heap -> Prop) : Prop :=
  FCall P f_IvLeast #[.string a, .slice b c d] h (fun g i => ∃ (e : ByteArray), g = .string e /\ FCall P f_IvGreatest #[.string a, .slice b c d] i (fun j k => ∃ (f : ByteArray), j = .string f /\ K (.agg #[.string e, .string f]) k))
theorem IvSpan_ok (a : ByteArray) (b : OA) (d e : Nat) (hvc : IvSpan Tryz.prog a b d e h K) : FCall Tryz.prog f_IvSpan #[.string a, .slice b d e] h K :=
  fn_sound Tryz.func114 (c := codeOf Tryz.f114) (by kernel_rfl) (rs := [.cell 4 23]) (by kernel_rfl) (fa := { loops := [], cuts := [], orders := [] })
    (cfg := { n := 12, own := [4], lim := none, fns := [73, 74], wr := [] }) (args := [.string a, .slice b d e]) (by kernel_rfl) (Bodies.cons Tryz.call73 (Bodies.cons Tryz.call74 Bodies.nil)) (Eq.mp (by kernel_rfl : IvSpan Tryz.prog a b d e h K = _) hvc)
def IvValid (P : Program) (a b : ByteArray) (h : Heap) (K : Value -> Heap -> Prop) : Prop :=
  FCall P f_TValid #[.string a] h (fun i f => ∃ (c : Bool), i = .bool c /\ Br c (FCall P f_TValid #[.string b] f (fun j g => ∃ (d : Bool), j = .bool d /\ Br d (FCall P f_TCompare #[.string a, .string b] g (fun k l => ∃ (e : Int), k = I e /\ K (.bool (decide (e <= (0 : Int)))) l))
  (K (.bool false) g)))
  (K (.bool false) f))
theorem IvValid_ok (a b : ByteArray) (hvc : IvValid Tryz.prog a b h K) : FCall Tryz.prog f_IvValid #[.agg #[.string a, .string b]] h K :=
  fn_sound Tryz.func23 (c := codeOf Tryz.f23) (by kernel_rfl) (rs := [.tmp 2]) (by kernel_rfl) (fa := { loops := [], cuts := [], orders := [] })
    (cfg := { n := 19, own := [1], lim := none, fns := [29, 77], wr := [] }) (args := [.agg #[.string a, .string b]]) (by kernel_rfl) (Bodies.cons Tryz.call29 (Bodies.cons Tryz.call77 Bodies.nil)) (Eq.mp (by kernel_rfl : IvValid Tryz.prog a b h K = _) hvc)
def IvContains (P : Program) (b c a : ByteArray) (h : Heap) (K : Value -> Heap -> Prop) : Prop :=
  FCall P f_IvValid #[.agg #[.string b, .string c]] h (fun l i => ∃ (d : Bool), l = .bool d /\ Br d (FCall P f_TValid #[.string a] i (fun m j => ∃ (e : Bool), m = .bool e /\ Br e (FCall P f_TCompare #[.string b, .string a] j (fun n k => ∃ (f : Int), n = I f /\ Br (decide (f <= (0 : Int))) (FCall P f_TCompare #[.string a, .string c] k (fun o p => ∃ (g : Int), o = I g /\ K (.bool (decide (g <= (0 : Int)))) p))
  (K (.bool false) k)))
  (K (.bool false) j)))
  (K (.bool false) i))
theorem IvContains_ok (a b d : ByteArray) (hvc : IvContains Tryz.prog a b d h K) : FCall Tryz.prog f_IvContains #[.agg #[.string a, .string b], .string d] h K :=
  fn_sound Tryz.func26 (c := codeOf Tryz.f26) (by kernel_rfl) (rs := [.tmp 4]) (by kernel_rfl) (fa := { loops := [], cuts := [], orders := [] })
    (cfg := { n := 25, own := [2], lim := none, fns := [23, 29, 77], wr := [] }) (args := [.agg #[.string a, .string b], .string d]) (by kernel_rfl) (Bodies.cons Tryz.call23 (Bodies.cons Tryz.call29 (Bodies.cons Tryz.call77 Bodies.nil))) (Eq.mp (by kernel_rfl : IvContains Tryz.prog a b d h K = _) hvc)
def IvAdd1 (P : Program) (e f : ByteArray) (g i : ByteArray) (h : Heap) (K : Value -> Heap -> Prop) : Prop :=
  FCall P f_TAdd #[.string e, .string g] h (fun j a => ∃ (b : ByteArray), j = .string b /\ Heap.le h a /\ FCall P f_TAdd #[.string f, .string i] a (fun k d => ∃ (c : ByteArray), k = .string c /\ Heap.le a d /\ K (.agg #[.string b, .string c]) d))
theorem IvAdd1_ok (a b : ByteArray) (d e : ByteArray) (hvc : IvAdd1 Tryz.prog a b d e h K) : FCall Tryz.prog f_IvAdd1 #[.agg #[.string a, .string b], .agg #[.string d, .string e]] h K :=
  fn_sound Tryz.func98 (c := codeOf Tryz.f98) (by kernel_rfl) (rs := [.cell 4 23]) (by kernel_rfl) (fa := { loops := [], cuts := [], orders := [(1, ([0, 1, 2, 3, 5, 6, 7, 8, 4, 9, 10, 11], [[], [0], [], [2], [0, 1, 2, 3], [], [5], [], [7], [0, 1, 2, 3, 4, 5, 6, 7, 8], [0, 1, 2, 3, 4, 5, 6, 7, 8, 9], [0, 1, 2, 3, 4, 5, 6, 7, 8, 9, 10]]))] })
    (cfg := { n := 16, own := [2, 3, 4], lim := none, fns := [30], wr := [] }) (args := [.agg #[.string a, .string b], .agg #[.string d, .string e]]) (by kernel_rfl) (Bodies.cons Tryz.call30 Bodies.nil) (Eq.mp (by kernel_rfl : IvAdd1 Tryz.prog a b d e h K = _) hvc)
def IvMul1 (P : Program) (f g : ByteArray) (i j : ByteArray) (h : Heap) (K : Value -> Heap -> Prop) : Prop :=
  FCall P f_TMul #[.string f, .string i] h (fun u a => ∃ (k : ByteArray), u = .string k /\ Heap.le h a /\ FCall P f_TMul #[.string f, .string j] a (fun v b => ∃ (l : ByteArray), v = .string l /\ Heap.le a b /\ FCall P f_TMul #[.string g, .string i] b (fun w c => ∃ (m : ByteArray), w = .string m /\ Heap.le b c /\ FCall P f_TMul #[.string g, .string j] c (fun x d => ∃ (n : ByteArray), x = .string n /\ Heap.le c d /\ wpH P (Instr.buildSlice 75 3 #[(0, .string l), (1, .string m), (2, .string n)]) (fun y e => ∃ (o : OA) (p q : Nat), y = .slice o p q /\ Heap.le d e /\ FCall P f_IvSpan #[.string k, .slice o p q] e (fun z t => ∃ (r s : ByteArray), z = .agg #[.string r, .string s] /\ Heap.le e t /\ K (.agg #[.string r, .string s]) t)) d))))
theorem IvMul1_ok (a b : ByteArray) (d e : ByteArray) (hvc : IvMul1 Tryz.prog a b d e h K) : FCall Tryz.prog f_IvMul1 #[.agg #[.string a, .string b], .agg #[.string d, .string e]] h K :=
  fn_sound Tryz.func99 (c := codeOf Tryz.f99) (by kernel_rfl) (rs := [.cell 4 23]) (by kernel_rfl) (fa := { loops := [], cuts := [], orders := [(1, ([0, 1, 2, 3, 5, 6, 7, 8, 10, 11, 12, 13, 15, 16, 17, 18, 4, 9, 14, 19, 20, 21, 22], [[], [0], [], [2], [0, 1, 2, 3], [], [5], [], [7], [0, 1, 2, 3, 4, 5, 6, 7, 8], [], [10], [], [12], [0, 1, 2, 3, 4, 5, 6, 7, 8, 9, 10, 11, 12, 13], [], [15], [], [17], [0, 1, 2, 3, 4, 5, 6, 7, 8, 9, 10, 11, 12, 13, 14, 15, 16, 17, 18], [0, 1, 2, 3, 4, 5, 6, 7, 8, 9, 10, 11, 12, 13, 14, 15, 16, 17, 18, 19], [0, 1, 2, 3, 4, 5, 6, 7, 8, 9, 10, 11, 12, 13, 14, 15, 16, 17, 18, 19, 20], [0, 1, 2, 3, 4, 5, 6, 7, 8, 9, 10, 11, 12, 13, 14, 15, 16, 17, 18, 19, 20, 21]]))] })
    (cfg := { n := 27, own := [2, 3, 4], lim := none, fns := [44, 114], wr := [] }) (args := [.agg #[.string a, .string b], .agg #[.string d, .string e]]) (by kernel_rfl) (Bodies.cons Tryz.call44 (Bodies.cons Tryz.call114 Bodies.nil)) (Eq.mp (by kernel_rfl : IvMul1 Tryz.prog a b d e h K = _) hvc)
def IvPow1 (P : Program) (e f : ByteArray) (c : Int) (h : Heap) (K : Value -> Heap -> Prop) : Prop :=
  FCall P f_TPow #[.string e, I c] h (fun O Q => ∃ (a : ByteArray) (M : Bool), O = .tuple #[.string a, .bool M] /\ FCall P f_TPow #[.string f, I c] Q (fun R d => ∃ (b : ByteArray) (N : Bool), R = .tuple #[.string b, .bool N] /\ Br (decide (c > (0 : Int))) (Br ((Int.tmod c (2 : Int)) == (0 : Int)) (FCall P f_TSign #[.string e] d (fun S J => ∃ (g : Int), S = I g /\ Br (decide (g < (0 : Int))) (FCall P f_TSign #[.string f] J (fun T L => ∃ (i : Int), T = I i /\ Br (decide (i > (0 : Int))) (wpH P (Instr.buildSlice 75 2 #[(0, .string a), (1, .string b)]) (fun V W => ∃ (j : OA) (k l : Nat), V = .slice j k l /\ FCall P f_IvSpan #[.string ({ data := #[48] } : ByteArray), .slice j k l] W (fun X Z => ∃ (m n : ByteArray), X = .agg #[.string m, .string n] /\ K (.agg #[.string m, .string n]) Z)) L)
  (wpH P (Instr.buildSlice 75 1 #[(0, .string b)]) (fun a0 a1 => ∃ (o : OA) (p q : Nat), a0 = .slice o p q /\ FCall P f_IvSpan #[.string a, .slice o p q] a1 (fun a2 a3 => ∃ (r s : ByteArray), a2 = .agg #[.string r, .string s] /\ K (.agg #[.string r, .string s]) a3)) L)))
  (wpH P (Instr.buildSlice 75 1 #[(0, .string b)]) (fun a4 a5 => ∃ (t : OA) (u v : Nat), a4 = .slice t u v /\ FCall P f_IvSpan #[.string a, .slice t u v] a5 (fun a6 a7 => ∃ (w x : ByteArray), a6 = .agg #[.string w, .string x] /\ K (.agg #[.string w, .string x]) a7)) J)))
  (wpH P (Instr.buildSlice 75 1 #[(0, .string b)]) (fun a8 a9 => ∃ (y : OA) (z A : Nat), a8 = .slice y z A /\ FCall P f_IvSpan #[.string a, .slice y z A] a9 (fun b0 b1 => ∃ (B C : ByteArray), b0 = .agg #[.string B, .string C] /\ K (.agg #[.string B, .string C]) b1)) d))
  (wpH P (Instr.buildSlice 75 1 #[(0, .string b)]) (fun b2 b3 => ∃ (D : OA) (E F : Nat), b2 = .slice D E F /\ FCall P f_IvSpan #[.string a, .slice D E F] b3 (fun b4 b5 => ∃ (G H : ByteArray), b4 = .agg #[.string G, .string H] /\ K (.agg #[.string G, .string H]) b5)) d)))
theorem IvPow1_ok (a b : ByteArray) (d : Int) (hvc : IvPow1 Tryz.prog a b d h K) : FCall Tryz.prog f_IvPow1 #[.agg #[.string a, .string b], I d] h K :=
  fn_sound Tryz.func62 (c := codeOf Tryz.f62) (by kernel_rfl) (rs := [.cell 4 23]) (by kernel_rfl) (fa := { loops := [], cuts := [], orders := [] })
    (cfg := { n := 50, own := [2, 4], lim := none, fns := [25, 113, 114], wr := [] }) (args := [.agg #[.string a, .string b], I d]) (by kernel_rfl) (Bodies.cons Tryz.call25 (Bodies.cons Tryz.call113 (Bodies.cons Tryz.call114 Bodies.nil))) (Eq.mp (by kernel_rfl : IvPow1 Tryz.prog a b d h K = _) hvc)
def IvAdd (P : Program) (a b : ByteArray) (c d : ByteArray) (h : Heap) (K : Value -> Heap -> Prop) : Prop :=
  FCall P f_IvValid #[.agg #[.string a, .string b]] h (fun l j => ∃ (e : Bool), l = .bool e /\ Br (!e) (K (.tuple #[.agg #[.string ({ data := #[] } : ByteArray), .string ({ data := #[] } : ByteArray)], I 1]) j)
  (FCall P f_IvValid #[.agg #[.string c, .string d]] j (fun m k => ∃ (f : Bool), m = .bool f /\ Br (!f) (K (.tuple #[.agg #[.string ({ data := #[] } : ByteArray), .string ({ data := #[] } : ByteArray)], I 1]) k)
  (FCall P f_IvAdd1 #[.agg #[.string a, .string b], .agg #[.string c, .string d]] k (fun n o => ∃ (g i : ByteArray), n = .agg #[.string g, .string i] /\ K (.tuple #[.agg #[.string g, .string i], I 0]) o)))))
theorem IvAdd_ok (a b : ByteArray) (d e : ByteArray) (hvc : IvAdd Tryz.prog a b d e h K) : FCall Tryz.prog f_IvAdd #[.agg #[.string a, .string b], .agg #[.string d, .string e]] h K :=
  fn_sound Tryz.func41 (c := codeOf Tryz.f41) (by kernel_rfl) (rs := [.cell 4 23, .tmp 5]) (by kernel_rfl) (fa := { loops := [], cuts := [], orders := [] })
    (cfg := { n := 18, own := [2, 3, 4], lim := none, fns := [23, 98], wr := [] }) (args := [.agg #[.string a, .string b], .agg #[.string d, .string e]]) (by kernel_rfl) (Bodies.cons Tryz.call23 (Bodies.cons Tryz.call98 Bodies.nil)) (Eq.mp (by kernel_rfl : IvAdd Tryz.prog a b d e h K = _) hvc)
def IvSub (P : Program) (c d : ByteArray) (e f : ByteArray) (h : Heap) (K : Value -> Heap -> Prop) : Prop :=
  FCall P f_IvValid #[.agg #[.string c, .string d]] h (fun n l => ∃ (g : Bool), n = .bool g /\ Br (!g) (K (.tuple #[.agg #[.string ({ data := #[] } : ByteArray), .string ({ data := #[] } : ByteArray)], I 1]) l)
  (FCall P f_IvValid #[.agg #[.string e, .string f]] l (fun o a => ∃ (i : Bool), o = .bool i /\ Br (!i) (K (.tuple #[.agg #[.string ({ data := #[] } : ByteArray), .string ({ data := #[] } : ByteArray)], I 1]) a)
  (FCall P f_TSub #[.string c, .string f] a (fun p b => ∃ (j : ByteArray), p = .string j /\ Heap.le a b /\ FCall P f_TSub #[.string d, .string e] b (fun q m => ∃ (k : ByteArray), q = .string k /\ Heap.le b m /\ K (.tuple #[.agg #[.string j, .string k], I 0]) m))))))
theorem IvSub_ok (a b : ByteArray) (d e : ByteArray) (hvc : IvSub Tryz.prog a b d e h K) : FCall Tryz.prog f_IvSub #[.agg #[.string a, .string b], .agg #[.string d, .string e]] h K :=
  fn_sound Tryz.func42 (c := codeOf Tryz.f42) (by kernel_rfl) (rs := [.cell 4 23, .tmp 5]) (by kernel_rfl) (fa := { loops := [], cuts := [], orders := [(3, ([0, 1, 2, 3, 5, 6, 7, 8, 4, 9, 10, 11, 12], [[], [0], [], [2], [0, 1, 2, 3], [], [5], [], [7], [0, 1, 2, 3, 4, 5, 6, 7, 8], [0, 1, 2, 3, 4, 5, 6, 7, 8, 9], [0, 1, 2, 3, 4, 5, 6, 7, 8, 9, 10], [0, 1, 2, 3, 4, 5, 6, 7, 8, 9, 10, 11]]))] })
    (cfg := { n := 26, own := [2, 3, 4], lim := none, fns := [23, 31], wr := [] }) (args := [.agg #[.string a, .string b], .agg #[.string d, .string e]]) (by kernel_rfl) (Bodies.cons Tryz.call23 (Bodies.cons Tryz.call31 Bodies.nil)) (Eq.mp (by kernel_rfl : IvSub Tryz.prog a b d e h K = _) hvc)
def IvMul (P : Program) (a b : ByteArray) (c d : ByteArray) (h : Heap) (K : Value -> Heap -> Prop) : Prop :=
  FCall P f_IvValid #[.agg #[.string a, .string b]] h (fun l j => ∃ (e : Bool), l = .bool e /\ Br (!e) (K (.tuple #[.agg #[.string ({ data := #[] } : ByteArray), .string ({ data := #[] } : ByteArray)], I 1]) j)
  (FCall P f_IvValid #[.agg #[.string c, .string d]] j (fun m k => ∃ (f : Bool), m = .bool f /\ Br (!f) (K (.tuple #[.agg #[.string ({ data := #[] } : ByteArray), .string ({ data := #[] } : ByteArray)], I 1]) k)
  (FCall P f_IvMul1 #[.agg #[.string a, .string b], .agg #[.string c, .string d]] k (fun n o => ∃ (g i : ByteArray), n = .agg #[.string g, .string i] /\ K (.tuple #[.agg #[.string g, .string i], I 0]) o)))))
theorem IvMul_ok (a b : ByteArray) (d e : ByteArray) (hvc : IvMul Tryz.prog a b d e h K) : FCall Tryz.prog f_IvMul #[.agg #[.string a, .string b], .agg #[.string d, .string e]] h K :=
  fn_sound Tryz.func43 (c := codeOf Tryz.f43) (by kernel_rfl) (rs := [.cell 4 23, .tmp 5]) (by kernel_rfl) (fa := { loops := [], cuts := [], orders := [] })
    (cfg := { n := 18, own := [2, 3, 4], lim := none, fns := [23, 99], wr := [] }) (args := [.agg #[.string a, .string b], .agg #[.string d, .string e]]) (by kernel_rfl) (Bodies.cons Tryz.call23 (Bodies.cons Tryz.call99 Bodies.nil)) (Eq.mp (by kernel_rfl : IvMul Tryz.prog a b d e h K = _) hvc)
def IvDiv (P : Program) (c d : ByteArray) (a b : ByteArray) (h : Heap) (K : Value -> Heap -> Prop) : Prop :=
  FCall P f_IvValid #[.agg #[.string c, .string d]] h (fun r m => ∃ (e : Bool), r = .bool e /\ Br (!e) (K (.tuple #[.agg #[.string ({ data := #[] } : ByteArray), .string ({ data := #[] } : ByteArray)], I 1]) m)
  (FCall P f_IvValid #[.agg #[.string a, .string b]] m (fun s n => ∃ (f : Bool), s = .bool f /\ Br (!f) (K (.tuple #[.agg #[.string ({ data := #[] } : ByteArray), .string ({ data := #[] } : ByteArray)], I 1]) n)
  (FCall P f_IvContains #[.agg #[.string a, .string b], .string ({ data := #[48] } : ByteArray)] n (fun t o => ∃ (g : Bool), t = .bool g /\ Br g (K (.tuple #[.agg #[.string ({ data := #[] } : ByteArray), .string ({ data := #[] } : ByteArray)], I 5]) o)
  (FCall P f_TDiv #[.string ({ data := #[49] } : ByteArray), .string b] o (fun u v => ∃ (i : ByteArray) (p : Bool), u = .tuple #[.string i, .bool p] /\ FCall P f_TDiv #[.string ({ data := #[49] } : ByteArray), .string a] v (fun w x => ∃ (j : ByteArray) (q : Bool), w = .tuple #[.string j, .bool q] /\ FCall P f_IvMul1 #[.agg #[.string c, .string d], .agg #[.string i, .string j]] x (fun y z => ∃ (k l : ByteArray), y = .agg #[.string k, .string l] /\ K (.tuple #[.agg #[.string k, .string l], I 0]) z)))))))))
theorem IvDiv_ok (a b : ByteArray) (d e : ByteArray) (hvc : IvDiv Tryz.prog a b d e h K) : FCall Tryz.prog f_IvDiv #[.agg #[.string a, .string b], .agg #[.string d, .string e]] h K :=
  fn_sound Tryz.func45 (c := codeOf Tryz.f45) (by kernel_rfl) (rs := [.cell 4 23, .tmp 5]) (by kernel_rfl) (fa := { loops := [], cuts := [], orders := [] })
    (cfg := { n := 39, own := [2, 3, 4], lim := none, fns := [23, 26, 27, 99], wr := [] }) (args := [.agg #[.string a, .string b], .agg #[.string d, .string e]]) (by kernel_rfl) (Bodies.cons Tryz.call23 (Bodies.cons Tryz.call26 (Bodies.cons Tryz.call27 (Bodies.cons Tryz.call99 Bodies.nil)))) (Eq.mp (by kernel_rfl : IvDiv Tryz.prog a b d e h K = _) hvc)
def IvPow (P : Program) (c d : ByteArray) (b : Int) (h : Heap) (K : Value -> Heap -> Prop) : Prop :=
  FCall P f_IvValid #[.agg #[.string c, .string d]] h (fun i a => ∃ (e : Bool), i = .bool e /\ Br (!e) (K (.tuple #[.agg #[.string ({ data := #[] } : ByteArray), .string ({ data := #[] } : ByteArray)], I 1]) a)
  (Br (decide (b < (0 : Int))) (K (.tuple #[.agg #[.string ({ data := #[] } : ByteArray), .string ({ data := #[] } : ByteArray)], I 3]) a)
  (Br (decide (b > (24 : Int))) (K (.tuple #[.agg #[.string ({ data := #[] } : ByteArray), .string ({ data := #[] } : ByteArray)], I 3]) a)
  (FCall P f_IvPow1 #[.agg #[.string c, .string d], I b] a (fun j k => ∃ (f g : ByteArray), j = .agg #[.string f, .string g] /\ K (.tuple #[.agg #[.string f, .string g], I 0]) k)))))
theorem IvPow_ok (a b : ByteArray) (d : Int) (hvc : IvPow Tryz.prog a b d h K) : FCall Tryz.prog f_IvPow #[.agg #[.string a, .string b], I d] h K :=
  fn_sound Tryz.func13 (c := codeOf Tryz.f13) (by kernel_rfl) (rs := [.cell 4 23, .tmp 5]) (by kernel_rfl) (fa := { loops := [], cuts := [], orders := [] })
    (cfg := { n := 20, own := [2, 4], lim := none, fns := [23, 62], wr := [] }) (args := [.agg #[.string a, .string b], I d]) (by kernel_rfl) (Bodies.cons Tryz.call23 (Bodies.cons Tryz.call62 Bodies.nil)) (Eq.mp (by kernel_rfl : IvPow Tryz.prog a b d h K = _) hvc)
def IvPower2 (P : Program) (a : Int) (h : Heap) (K : Value -> Heap -> Prop) : Prop :=
  Br (decide (a <= (1000 : Int))) (FCall P f_TPow #[.string ({ data := #[50] } : ByteArray), I a] h (fun g i => ∃ (b : ByteArray) (f : Bool), g = .tuple #[.string b, .bool f] /\ K (.string b) i))
  (FCall P f_IvPower2 #[I (wi64 (Int.tdiv a (2 : Int)))] h (fun j k => ∃ (c : ByteArray), j = .string c /\ FCall P f_IvPower2 #[I (wi64 (a - (wi64 (Int.tdiv a (2 : Int)))))] k (fun l m => ∃ (d : ByteArray), l = .string d /\ FCall P f_TMul #[.string c, .string d] m (fun n o => ∃ (e : ByteArray), n = .string e /\ K (.string e) o))))
theorem IvPower2_ok (a : Int) (hvc : IvPower2 Tryz.prog a h K) : FCall Tryz.prog f_IvPower2 #[I a] h K :=
  fn_sound Tryz.func64 (c := codeOf Tryz.f64) (by kernel_rfl) (rs := [.tmp 2]) (by kernel_rfl) (fa := { loops := [], cuts := [], orders := [] })
    (cfg := { n := 22, own := [], lim := none, fns := [25, 44, 64], wr := [] }) (args := [I a]) (by kernel_rfl) (Bodies.cons Tryz.call25 (Bodies.cons Tryz.call44 (Bodies.cons Tryz.call64 Bodies.nil))) (Eq.mp (by kernel_rfl : IvPower2 Tryz.prog a h K = _) hvc)
def IvRoundOut (P : Program) (d e : ByteArray) (c : Int) (h : Heap) (K : Value -> Heap -> Prop) : Prop :=
  FCall P f_IvValid #[.agg #[.string d, .string e]] h (fun p b => ∃ (f : Bool), p = .bool f /\ Br (!f) (K (.tuple #[.agg #[.string ({ data := #[] } : ByteArray), .string ({ data := #[] } : ByteArray)], I 1]) b)
  (Br (decide (c < (0 : Int))) (K (.tuple #[.agg #[.string ({ data := #[] } : ByteArray), .string ({ data := #[] } : ByteArray)], I 3]) b)
  (Br (decide (c > (4096 : Int))) (K (.tuple #[.agg #[.string ({ data := #[] } : ByteArray), .string ({ data := #[] } : ByteArray)], I 3]) b)
  (FCall P f_IvPower2 #[I c] b (fun q r => ∃ (a : ByteArray), q = .string a /\ FCall P f_TMul #[.string d, .string a] r (fun s t => ∃ (g : ByteArray), s = .string g /\ FCall P f_TFloor #[.string g] t (fun u v => ∃ (i : ByteArray), u = .string i /\ FCall P f_TDiv #[.string i, .string a] v (fun w x => ∃ (j : ByteArray) (n : Bool), w = .tuple #[.string j, .bool n] /\ FCall P f_TMul #[.string e, .string a] x (fun y z => ∃ (k : ByteArray), y = .string k /\ FCall P f_TCeil #[.string k] z (fun A B => ∃ (l : ByteArray), A = .string l /\ FCall P f_TDiv #[.string l, .string a] B (fun C D => ∃ (m : ByteArray) (o : Bool), C = .tuple #[.string m, .bool o] /\ K (.tuple #[.agg #[.string j, .string m], I 0]) D)))))))))))
theorem IvRoundOut_ok (a b : ByteArray) (d : Int) (hvc : IvRoundOut Tryz.prog a b d h K) : FCall Tryz.prog f_IvRoundOut #[.agg #[.string a, .string b], I d] h K :=
  fn_sound Tryz.func15 (c := codeOf Tryz.f15) (by kernel_rfl) (rs := [.cell 4 23, .tmp 5]) (by kernel_rfl) (fa := { loops := [], cuts := [], orders := [] })
    (cfg := { n := 47, own := [2, 4], lim := none, fns := [23, 27, 28, 44, 64, 65], wr := [] }) (args := [.agg #[.string a, .string b], I d]) (by kernel_rfl) (Bodies.cons Tryz.call23 (Bodies.cons Tryz.call27 (Bodies.cons Tryz.call28 (Bodies.cons Tryz.call44 (Bodies.cons Tryz.call64 (Bodies.cons Tryz.call65 Bodies.nil)))))) (Eq.mp (by kernel_rfl : IvRoundOut Tryz.prog a b d h K = _) hvc)
def KpShort (P : Program) (i : Int) (j : OA) (d k : Nat) (h : Heap) (K : Value -> Heap -> Prop) : Prop :=
  ∃ (c : List Value -> Heap -> Prop) (e : List Value -> Heap -> Nat), c [I 0] h /\
  ∀ (a : Int), ∀ b, c [I a] b -> Br (decide (a < (d : Int))) (∃ g, j = some g /\ 0 <= a /\ a < (d : Int) /\ ∃ (f : ByteArray), Heap.cell? b (Addr.add g ((a).toNat * 1)) = some (.string f) /\ Br (decide (((ByteArray.size f : Nat) : Int) > i)) (K (.bool false) b)
  (c [I (wi64 (a + 1))] b /\ e [I (wi64 (a + 1))] b < e [I a] b))
  (K (.bool true) b)
theorem KpShort_ok (a : Int) (b : OA) (d e : Nat) (hvc : KpShort Tryz.prog a b d e h K) : FCall Tryz.prog f_KpShort #[I a, .slice b d e] h K :=
  fn_sound Tryz.func11 (c := codeOf Tryz.f11) (by kernel_rfl) (rs := [.tmp 4]) (by kernel_rfl) (fa := { loops := [(2, { slots := [5], owns := [], zs := [.int .i64 0], lim := { slots := [4, 5, 6, 7, 8, 9, 10, 11, 12, 13, 14, 15, 16, 17, 18], keys := [] } })], cuts := [], orders := [] })
    (cfg := { n := 19, own := [], lim := none, fns := [], wr := [] }) (args := [I a, .slice b d e]) (by kernel_rfl) Bodies.nil (Eq.mp (by kernel_rfl : KpShort Tryz.prog a b d e h K = _) hvc)
def KpMod (P : Program) (b : Int) (a : Int) (h : Heap) (K : Value -> Heap -> Prop) : Prop :=
  Br (decide (a = 0)) False
  (Br (decide ((Int.tmod b a) < (0 : Int))) (K (I (wi64 ((Int.tmod b a) + a))) h)
  (K (I (Int.tmod b a)) h))
theorem KpMod_ok (a : Int) (b : Int) (hvc : KpMod Tryz.prog a b h K) : FCall Tryz.prog f_KpMod #[I a, I b] h K :=
  fn_sound Tryz.func24 (c := codeOf Tryz.f24) (by kernel_rfl) (rs := [.tmp 4]) (by kernel_rfl) (fa := { loops := [], cuts := [], orders := [] })
    (cfg := { n := 15, own := [], lim := none, fns := [], wr := [] }) (args := [I a, I b]) (by kernel_rfl) Bodies.nil (Eq.mp (by kernel_rfl : KpMod Tryz.prog a b h K = _) hvc)
def LAwake (P : Program)  (h : Heap) (K : Value -> Heap -> Prop) : Prop :=
  FCall P f_IvMul #[.agg #[.string ({ data := #[45, 49] } : ByteArray), .string ({ data := #[50] } : ByteArray)], .agg #[.string ({ data := #[45, 49] } : ByteArray), .string ({ data := #[50] } : ByteArray)]] h (fun l m => ∃ (b c : ByteArray) (d : Int), l = .tuple #[.agg #[.string b, .string c], I d] /\ FCall P f_IvPow #[.agg #[.string ({ data := #[45, 49] } : ByteArray), .string ({ data := #[50] } : ByteArray)], I 2] m (fun n o => ∃ (e f : ByteArray) (g : Int), n = .tuple #[.agg #[.string e, .string f], I g] /\ FCall P f_IvRoundOut #[.agg #[.string ({ data := #[49, 47, 51] } : ByteArray), .string ({ data := #[49, 47, 51] } : ByteArray)], I 2] o (fun p a => ∃ (i j : ByteArray) (k : Int), p = .tuple #[.agg #[.string i, .string j], I k] /\ Br (d == (0 : Int)) (Br (g == (0 : Int)) (Br (k == (0 : Int)) (Br ((ByteArray.toList b == ByteArray.toList ({ data := #[45, 50] } : ByteArray)) && ((ByteArray.toList c == ByteArray.toList ({ data := #[52] } : ByteArray)) && true)) (Br ((ByteArray.toList e == ByteArray.toList ({ data := #[48] } : ByteArray)) && ((ByteArray.toList f == ByteArray.toList ({ data := #[52] } : ByteArray)) && true)) (K (.bool ((ByteArray.toList i == ByteArray.toList ({ data := #[49, 47, 52] } : ByteArray)) && ((ByteArray.toList j == ByteArray.toList ({ data := #[49, 47, 50] } : ByteArray)) && true))) a)
  (K (.bool false) a))
  (K (.bool false) a))
  (K (.bool false) a))
  (K (.bool false) a))
  (K (.bool false) a))))
theorem LAwake_ok  (hvc : LAwake Tryz.prog  h K) : FCall Tryz.prog f_LAwake #[] h K :=
  fn_sound Tryz.func12 (c := codeOf Tryz.f12) (by kernel_rfl) (rs := [.tmp 0]) (by kernel_rfl) (fa := { loops := [], cuts := [], orders := [] })
    (cfg := { n := 50, own := [1, 2, 4, 6], lim := none, fns := [13, 15, 43], wr := [] }) (args := []) (by kernel_rfl) (Bodies.cons Tryz.call13 (Bodies.cons Tryz.call15 (Bodies.cons Tryz.call43 Bodies.nil))) (Eq.mp (by kernel_rfl : LAwake Tryz.prog  h K = _) hvc)
def LShort (P : Program) (g : OA) (d t : Nat) (h : Heap) (K : Value -> Heap -> Prop) : Prop :=
  ∃ (e : List Value -> Heap -> Prop) (i : List Value -> Heap -> Nat), e [I 0] h /\
  ∀ (a : Int), ∀ b, e [I a] b -> Br (decide (a < (d : Int))) (∃ p, g = some p /\ 0 <= a /\ a < (d : Int) /\ ∃ (j : ByteArray), Heap.cell? b (Addr.add (Addr.add p ((a).toNat * 2)) 0) = some (.string j) /\ ∃ q, g = some q /\ 0 <= a /\ a < (d : Int) /\ ∃ (k : ByteArray), Heap.cell? b (Addr.add (Addr.add q ((a).toNat * 2)) 1) = some (.string k) /\ wpH P (Instr.buildSlice 75 2 #[(0, .string j), (1, .string k)]) (fun r f => ∃ (l : OA) (m n : Nat), r = .slice l m n /\ Heap.le b f /\ FCall P f_KpShort #[I 20, .slice l m n] f (fun s c => ∃ (o : Bool), s = .bool o /\ Heap.le f c /\ Br (!o) (K (.bool false) c)
  (e [I (wi64 (a + 1))] c /\ i [I (wi64 (a + 1))] c < i [I a] b))) b)
  (K (.bool true) b)
theorem LShort_ok (a : OA) (b d : Nat) (hvc : LShort Tryz.prog a b d h K) : FCall Tryz.prog f_LShort #[.slice a b d] h K :=
  fn_sound Tryz.func17 (c := codeOf Tryz.f17) (by kernel_rfl) (rs := [.tmp 2]) (by kernel_rfl) (fa := { loops := [(2, { slots := [3], owns := [], zs := [.int .i64 0], lim := { slots := [2, 3, 4, 5, 6, 7, 8, 9, 10, 11, 12, 13, 14, 15, 16, 17, 18, 19, 20, 21, 22], keys := [] } })], cuts := [], orders := [(4, ([0, 1, 2, 3, 4, 5, 6, 7, 8, 9, 10, 11, 12], [[], [], [0, 1], [0, 1, 2], [0, 1, 2, 3], [], [], [5, 6], [5, 6, 7], [5, 6, 7, 8], [0, 1, 2, 3, 4, 5, 6, 7, 8, 9], [0, 1, 2, 3, 4, 5, 6, 7, 8, 9, 10], [0, 1, 2, 3, 4, 5, 6, 7, 8, 9, 10, 11]]))] })
    (cfg := { n := 23, own := [], lim := none, fns := [11], wr := [] }) (args := [.slice a b d]) (by kernel_rfl) (Bodies.cons Tryz.call11 Bodies.nil) (Eq.mp (by kernel_rfl : LShort Tryz.prog a b d h K = _) hvc)
def LOrdered (P : Program) (a b : ByteArray) (h : Heap) (K : Value -> Heap -> Prop) : Prop :=
  FCall P f_TCompare #[.string a, .string b] h (fun e d => ∃ (c : Int), e = I c /\ Br (decide (c > (0 : Int))) (K (.agg #[.string b, .string a]) d)
  (K (.agg #[.string a, .string b]) d))
theorem LOrdered_ok (a b : ByteArray) (hvc : LOrdered Tryz.prog a b h K) : FCall Tryz.prog f_LOrdered #[.agg #[.string a, .string b]] h K :=
  fn_sound Tryz.func22 (c := codeOf Tryz.f22) (by kernel_rfl) (rs := [.cell 2 23]) (by kernel_rfl) (fa := { loops := [], cuts := [], orders := [] })
    (cfg := { n := 16, own := [1, 2], lim := none, fns := [29], wr := [] }) (args := [.agg #[.string a, .string b]]) (by kernel_rfl) (Bodies.cons Tryz.call29 Bodies.nil) (Eq.mp (by kernel_rfl : LOrdered Tryz.prog a b h K = _) hvc)
def LNear (P : Program) (b c i : ByteArray) (h : Heap) (K : Value -> Heap -> Prop) : Prop :=
  FCall P f_TAdd #[.string i, .string ({ data := #[48] } : ByteArray)] h (fun j k => ∃ (a : ByteArray), j = .string a /\ FCall P f_TCompare #[.string a, .string b] k (fun l f => ∃ (d : Int), l = I d /\ Br (decide (d < (0 : Int))) (K (.string b) f)
  (FCall P f_TCompare #[.string a, .string c] f (fun m g => ∃ (e : Int), m = I e /\ Br (decide (e > (0 : Int))) (K (.string c) g)
  (K (.string a) g)))))
theorem LNear_ok (a b d : ByteArray) (hvc : LNear Tryz.prog a b d h K) : FCall Tryz.prog f_LNear #[.agg #[.string a, .string b], .string d] h K :=
  fn_sound Tryz.func40 (c := codeOf Tryz.f40) (by kernel_rfl) (rs := [.tmp 4]) (by kernel_rfl) (fa := { loops := [], cuts := [], orders := [] })
    (cfg := { n := 22, own := [2], lim := none, fns := [29, 30], wr := [] }) (args := [.agg #[.string a, .string b], .string d]) (by kernel_rfl) (Bodies.cons Tryz.call29 (Bodies.cons Tryz.call30 Bodies.nil)) (Eq.mp (by kernel_rfl : LNear Tryz.prog a b d h K = _) hvc)
def LIntervalContains (P : Program) (e0 e1 : ByteArray) (e2 e3 : ByteArray) (w x : ByteArray) (e4 : Int) (h : Heap) (K : Value -> Heap -> Prop) : Prop :=
  FCall P f_LOrdered #[.agg #[.string e0, .string e1]] h (fun e5 o => ∃ (a b : ByteArray), e5 = .agg #[.string a, .string b] /\ Heap.le h o /\ FCall P f_LOrdered #[.agg #[.string e2, .string e3]] o (fun e6 c7 => ∃ (c d : ByteArray), e6 = .agg #[.string c, .string d] /\ Heap.le o c7 /\ wpH P (Instr.buildSlice 68 2 #[(0, .agg #[.string a, .string b]), (1, .agg #[.string c, .string d])]) (fun e7 e8 => ∃ (y : OA) (z A : Nat), e7 = .slice y z A /\ FCall P f_LShort #[.slice y z A] e8 (fun e9 c8 => ∃ (B : Bool), e9 = .bool B /\ Br (!B) (FCall P f_LAwake #[] c8 (fun f0 f1 => ∃ (C : Bool), f0 = .bool C /\ K (.bool C) f1))
  (wpH P (Instr.buildSlice 75 2 #[(0, .string w), (1, .string x)]) (fun f2 f3 => ∃ (D : OA) (E F : Nat), f2 = .slice D E F /\ FCall P f_KpShort #[I 12, .slice D E F] f3 (fun f4 p => ∃ (G : Bool), f4 = .bool G /\ Br (!G) (FCall P f_LAwake #[] p (fun f5 f6 => ∃ (H : Bool), f5 = .bool H /\ K (.bool H) f6))
  (FCall P f_LNear #[.agg #[.string a, .string b], .string w] p (fun f7 q => ∃ (f : ByteArray), f7 = .string f /\ Heap.le p q /\ FCall P f_LNear #[.agg #[.string c, .string d], .string x] q (fun f8 c9 => ∃ (i : ByteArray), f8 = .string i /\ Heap.le q c9 /\ FCall P f_IvContains #[.agg #[.string a, .string b], .string f] c9 (fun f9 d0 => ∃ (J : Bool), f9 = .bool J /\ Br (!J) (FCall P f_IvValid #[.agg #[.string a, .string b]] d0 (fun g0 d1 => ∃ (L : Bool), g0 = .bool L /\ Br (!L) (FCall P f_LAwake #[] d1 (fun g1 g2 => ∃ (M : Bool), g1 = .bool M /\ K (.bool M) g2))
  (FCall P f_IvValid #[.agg #[.string c, .string d]] d1 (fun g3 d2 => ∃ (N : Bool), g3 = .bool N /\ Br (!N) (FCall P f_LAwake #[] d2 (fun g4 g5 => ∃ (O : Bool), g4 = .bool O /\ K (.bool O) g5))
  (K (.bool false) d2)))))
  (FCall P f_IvContains #[.agg #[.string c, .string d], .string i] d0 (fun g6 d3 => ∃ (Q : Bool), g6 = .bool Q /\ Br (!Q) (FCall P f_IvValid #[.agg #[.string a, .string b]] d3 (fun g7 d4 => ∃ (R : Bool), g7 = .bool R /\ Br (!R) (FCall P f_LAwake #[] d4 (fun g8 g9 => ∃ (S : Bool), g8 = .bool S /\ K (.bool S) g9))
  (FCall P f_IvValid #[.agg #[.string c, .string d]] d4 (fun h0 d5 => ∃ (T : Bool), h0 = .bool T /\ Br (!T) (FCall P f_LAwake #[] d5 (fun h1 h2 => ∃ (V : Bool), h1 = .bool V /\ K (.bool V) h2))
  (K (.bool false) d5)))))
  (FCall P f_KpMod #[I e4, I 6] d3 (fun h3 h4 => ∃ (m : Int), h3 = I m /\ FCall P f_IvAdd #[.agg #[.string a, .string b], .agg #[.string c, .string d]] h4 (fun h5 h6 => ∃ (W X : ByteArray) (Z : Int), h5 = .tuple #[.agg #[.string W, .string X], I Z] /\ FCall P f_IvSub #[.agg #[.string a, .string b], .agg #[.string c, .string d]] h6 (fun h7 h8 => ∃ (a0 a1 : ByteArray) (a2 : Int), h7 = .tuple #[.agg #[.string a0, .string a1], I a2] /\ FCall P f_IvMul #[.agg #[.string a, .string b], .agg #[.string c, .string d]] h8 (fun h9 i0 => ∃ (a3 a4 : ByteArray) (a5 : Int), h9 = .tuple #[.agg #[.string a3, .string a4], I a5] /\ FCall P f_IvPow #[.agg #[.string a, .string b], I m] i0 (fun i1 i2 => ∃ (a6 a7 : ByteArray) (a8 : Int), i1 = .tuple #[.agg #[.string a6, .string a7], I a8] /\ FCall P f_TPow #[.string f, I m] i2 (fun i3 g => ∃ (a9 : ByteArray) (b0 : Bool), i3 = .tuple #[.string a9, .bool b0] /\ ∃ (e : List Value -> Heap -> Prop), (Br (Z != (0 : Int)) (e [.bool true] g)
  (Br (a2 != (0 : Int)) (e [.bool true] g)
  (Br (a5 != (0 : Int)) (e [.bool true] g)
  (Br (a8 != (0 : Int)) (e [.bool true] g)
  (Br (!b0) (e [.bool true] g)
  (FCall P f_TAdd #[.string f, .string i] g (fun i4 r => ∃ (b1 : ByteArray), i4 = .string b1 /\ Heap.le g r /\ FCall P f_IvContains #[.agg #[.string W, .string X], .string b1] r (fun i5 j => ∃ (b2 : Bool), i5 = .bool b2 /\ Heap.le r j /\ Br (!b2) (e [.bool true] j)
  (FCall P f_TSub #[.string f, .string i] j (fun i6 s => ∃ (b3 : ByteArray), i6 = .string b3 /\ Heap.le j s /\ FCall P f_IvContains #[.agg #[.string a0, .string a1], .string b3] s (fun i7 k => ∃ (b4 : Bool), i7 = .bool b4 /\ Heap.le s k /\ Br (!b4) (e [.bool true] k)
  (FCall P f_TMul #[.string f, .string i] k (fun i8 t => ∃ (b5 : ByteArray), i8 = .string b5 /\ Heap.le k t /\ FCall P f_IvContains #[.agg #[.string a3, .string a4], .string b5] t (fun i9 l => ∃ (b6 : Bool), i9 = .bool b6 /\ Heap.le t l /\ Br (!b6) (e [.bool true] l)
  (FCall P f_IvContains #[.agg #[.string a6, .string a7], .string a9] l (fun j0 d6 => ∃ (b7 : Bool), j0 = .bool b7 /\ Heap.le l d6 /\ e [.bool (!b7)] d6)))))))))))))))) /\
  ∀ (b8 : Bool), ∀ v, e [.bool b8] v -> Br b8 (K (.bool false) v)
  (FCall P f_IvDiv #[.agg #[.string a, .string b], .agg #[.string c, .string d]] v (fun j1 u => ∃ (b9 c0 : ByteArray) (n : Int), j1 = .tuple #[.agg #[.string b9, .string c0], I n] /\ Br (n != (0 : Int)) (Br (n == (5 : Int)) (FCall P f_IvContains #[.agg #[.string c, .string d], .string ({ data := #[48] } : ByteArray)] u (fun j2 d7 => ∃ (c1 : Bool), j2 = .bool c1 /\ Br c1 (FCall P f_LAwake #[] d7 (fun j3 j4 => ∃ (c2 : Bool), j3 = .bool c2 /\ K (.bool c2) j4))
  (K (.bool false) d7)))
  (K (.bool false) u))
  (FCall P f_TDiv #[.string f, .string i] u (fun j5 d8 => ∃ (c3 : ByteArray) (c4 : Bool), j5 = .tuple #[.string c3, .bool c4] /\ Br c4 (FCall P f_IvContains #[.agg #[.string b9, .string c0], .string c3] d8 (fun j6 d9 => ∃ (c5 : Bool), j6 = .bool c5 /\ Br c5 (FCall P f_LAwake #[] d9 (fun j7 j8 => ∃ (c6 : Bool), j7 = .bool c6 /\ K (.bool c6) j8))
  (K (.bool false) d9)))
  (K (.bool false) d8)))))))))))))))))))) c8))) c7))
theorem LIntervalContains_ok (a b : ByteArray) (d e : ByteArray) (f g : ByteArray) (i : Int) (hvc : LIntervalContains Tryz.prog a b d e f g i h K) : FCall Tryz.prog f_LIntervalContains #[.agg #[.string a, .string b], .agg #[.string d, .string e], .string f, .string g, I i] h K :=
  fn_sound Tryz.func7 (c := codeOf Tryz.f7) (by kernel_rfl) (rs := [.tmp 10]) (by kernel_rfl) (fa := { loops := [], cuts := [(14, { slots := [149], owns := [], zs := [.bool false], lim := { slots := [102, 103, 104, 105, 106, 107, 108, 109, 110, 111, 112, 113, 114, 115, 116, 117, 118, 119, 120, 121, 122, 123, 124, 125, 126, 127, 128, 129, 130, 131, 132, 133, 134, 135, 136, 137, 138, 139, 140, 141, 142, 143, 144, 145, 146, 147, 148, 149], keys := [] } })], orders := [(1, ([0, 2, 1, 3, 4, 5], [[], [0], [], [0, 1, 2], [0, 1, 2, 3], [0, 1, 2, 3, 4]])), (4, ([0, 1, 3, 4, 2, 5, 6, 7], [[], [], [0, 1], [], [], [0, 1, 2, 3, 4], [0, 1, 2, 3, 4, 5], [0, 1, 2, 3, 4, 5, 6]])), (13, ([0, 1, 2, 3, 4, 5, 6, 7, 8, 9, 10, 11, 12, 13, 14, 15, 16, 17, 18, 19, 20, 21, 22, 23, 24, 25, 26, 27, 28, 29, 30, 31, 32, 33, 34, 35, 36, 37, 38, 39, 40, 41, 42, 43, 44, 45, 46, 47], [[], [0], [0, 1], [0, 1, 2], [0, 1, 2, 3], [0, 1, 2, 3, 4], [0, 1, 2, 3, 4, 5], [0, 1, 2, 3, 4, 5, 6], [0, 1, 2, 3, 4, 5, 6, 7], [0, 1, 2, 3, 4, 5, 6, 7, 8], [0, 1, 2, 3, 4, 5, 6, 7, 8, 9], [0, 1, 2, 3, 4, 5, 6, 7, 8, 9, 10], [0, 1, 2, 3, 4, 5, 6, 7, 8, 9, 10, 11], [0, 1, 2, 3, 4, 5, 6, 7, 8, 9, 10, 11, 12], [0, 1, 2, 3, 4, 5, 6, 7, 8, 9, 10, 11, 12, 13], [0, 1, 2, 3, 4, 5, 6, 7, 8, 9, 10, 11, 12, 13, 14], [0, 1, 2, 3, 4, 5, 6, 7, 8, 9, 10, 11, 12, 13, 14, 15], [0, 1, 2, 3, 4, 5, 6, 7, 8, 9, 10, 11, 12, 13, 14, 15, 16], [0, 1, 2, 3, 4, 5, 6, 7, 8, 9, 10, 11, 12, 13, 14, 15, 16, 17], [0, 1, 2, 3, 4, 5, 6, 7, 8, 9, 10, 11, 12, 13, 14, 15, 16, 17, 18], [0, 1, 2, 3, 4, 5, 6, 7, 8, 9, 10, 11, 12, 13, 14, 15, 16, 17, 18], [0, 1, 2, 3, 4, 5, 6, 7, 8, 9, 10, 11, 12, 13, 14, 15, 16, 17, 18], [0, 1, 2, 3, 4, 5, 6, 7, 8, 9, 10, 11, 12, 13, 14, 15, 16, 17, 18, 20, 21], [0, 1, 2, 3, 4, 5, 6, 7, 8, 9, 10, 11, 12, 13, 14, 15, 16, 17, 18, 19, 20, 21, 22], [0, 1, 2, 3, 4, 5, 6, 7, 8, 9, 10, 11, 12, 13, 14, 15, 16, 17, 18, 19, 20, 21, 22, 23], [0, 1, 2, 3, 4, 5, 6, 7, 8, 9, 10, 11, 12, 13, 14, 15, 16, 17, 18, 19, 20, 21, 22, 23, 24], [0, 1, 2, 3, 4, 5, 6, 7, 8, 9, 10, 11, 12, 13, 14, 15, 16, 17, 18, 19, 20, 21, 22, 23, 24, 25], [0, 1, 2, 3, 4, 5, 6, 7, 8, 9, 10, 11, 12, 13, 14, 15, 16, 17, 18, 19, 20, 21, 22, 23, 24, 25, 26], [0, 1, 2, 3, 4, 5, 6, 7, 8, 9, 10, 11, 12, 13, 14, 15, 16, 17, 18, 19, 20, 21, 22, 23, 24, 25, 26], [0, 1, 2, 3, 4, 5, 6, 7, 8, 9, 10, 11, 12, 13, 14, 15, 16, 17, 18, 19, 20, 21, 22, 23, 24, 25, 26], [0, 1, 2, 3, 4, 5, 6, 7, 8, 9, 10, 11, 12, 13, 14, 15, 16, 17, 18, 19, 20, 21, 22, 23, 24, 25, 26, 28, 29], [0, 1, 2, 3, 4, 5, 6, 7, 8, 9, 10, 11, 12, 13, 14, 15, 16, 17, 18, 19, 20, 21, 22, 23, 24, 25, 26, 27, 28, 29, 30], [0, 1, 2, 3, 4, 5, 6, 7, 8, 9, 10, 11, 12, 13, 14, 15, 16, 17, 18, 19, 20, 21, 22, 23, 24, 25, 26, 27, 28, 29, 30, 31], [0, 1, 2, 3, 4, 5, 6, 7, 8, 9, 10, 11, 12, 13, 14, 15, 16, 17, 18, 19, 20, 21, 22, 23, 24, 25, 26, 27, 28, 29, 30, 31, 32], [0, 1, 2, 3, 4, 5, 6, 7, 8, 9, 10, 11, 12, 13, 14, 15, 16, 17, 18, 19, 20, 21, 22, 23, 24, 25, 26, 27, 28, 29, 30, 31, 32, 33], [0, 1, 2, 3, 4, 5, 6, 7, 8, 9, 10, 11, 12, 13, 14, 15, 16, 17, 18, 19, 20, 21, 22, 23, 24, 25, 26, 27, 28, 29, 30, 31, 32, 33, 34], [0, 1, 2, 3, 4, 5, 6, 7, 8, 9, 10, 11, 12, 13, 14, 15, 16, 17, 18, 19, 20, 21, 22, 23, 24, 25, 26, 27, 28, 29, 30, 31, 32, 33, 34], [0, 1, 2, 3, 4, 5, 6, 7, 8, 9, 10, 11, 12, 13, 14, 15, 16, 17, 18, 19, 20, 21, 22, 23, 24, 25, 26, 27, 28, 29, 30, 31, 32, 33, 34], [0, 1, 2, 3, 4, 5, 6, 7, 8, 9, 10, 11, 12, 13, 14, 15, 16, 17, 18, 19, 20, 21, 22, 23, 24, 25, 26, 27, 28, 29, 30, 31, 32, 33, 34, 36, 37], [0, 1, 2, 3, 4, 5, 6, 7, 8, 9, 10, 11, 12, 13, 14, 15, 16, 17, 18, 19, 20, 21, 22, 23, 24, 25, 26, 27, 28, 29, 30, 31, 32, 33, 34, 35, 36, 37, 38], [0, 1, 2, 3, 4, 5, 6, 7, 8, 9, 10, 11, 12, 13, 14, 15, 16, 17, 18, 19, 20, 21, 22, 23, 24, 25, 26, 27, 28, 29, 30, 31, 32, 33, 34, 35, 36, 37, 38, 39], [0, 1, 2, 3, 4, 5, 6, 7, 8, 9, 10, 11, 12, 13, 14, 15, 16, 17, 18, 19, 20, 21, 22, 23, 24, 25, 26, 27, 28, 29, 30, 31, 32, 33, 34, 35, 36, 37, 38, 39, 40], [0, 1, 2, 3, 4, 5, 6, 7, 8, 9, 10, 11, 12, 13, 14, 15, 16, 17, 18, 19, 20, 21, 22, 23, 24, 25, 26, 27, 28, 29, 30, 31, 32, 33, 34, 35, 36, 37, 38, 39, 40, 41], [0, 1, 2, 3, 4, 5, 6, 7, 8, 9, 10, 11, 12, 13, 14, 15, 16, 17, 18, 19, 20, 21, 22, 23, 24, 25, 26, 27, 28, 29, 30, 31, 32, 33, 34, 35, 36, 37, 38, 39, 40, 41, 42], [0, 1, 2, 3, 4, 5, 6, 7, 8, 9, 10, 11, 12, 13, 14, 15, 16, 17, 18, 19, 20, 21, 22, 23, 24, 25, 26, 27, 28, 29, 30, 31, 32, 33, 34, 35, 36, 37, 38, 39, 40, 41, 42], [0, 1, 2, 3, 4, 5, 6, 7, 8, 9, 10, 11, 12, 13, 14, 15, 16, 17, 18, 19, 20, 21, 22, 23, 24, 25, 26, 27, 28, 29, 30, 31, 32, 33, 34, 35, 36, 37, 38, 39, 40, 41, 42, 43, 44], [0, 1, 2, 3, 4, 5, 6, 7, 8, 9, 10, 11, 12, 13, 14, 15, 16, 17, 18, 19, 20, 21, 22, 23, 24, 25, 26, 27, 28, 29, 30, 31, 32, 33, 34, 35, 36, 37, 38, 39, 40, 41, 42, 43, 44, 45], [0, 1, 2, 3, 4, 5, 6, 7, 8, 9, 10, 11, 12, 13, 14, 15, 16, 17, 18, 19, 20, 21, 22, 23, 24, 25, 26, 27, 28, 29, 30, 31, 32, 33, 34, 35, 36, 37, 38, 39, 40, 41, 42, 43, 44, 45, 46]]))] })
    (cfg := { n := 182, own := [5, 6, 13, 15, 17, 19, 23], lim := none, fns := [11, 12, 13, 17, 22, 23, 24, 25, 26, 27, 30, 31, 40, 41, 42, 43, 44, 45], wr := [] }) (args := [.agg #[.string a, .string b], .agg #[.string d, .string e], .string f, .string g, I i]) (by kernel_rfl) (Bodies.cons Tryz.call11 (Bodies.cons Tryz.call12 (Bodies.cons Tryz.call13 (Bodies.cons Tryz.call17 (Bodies.cons Tryz.call22 (Bodies.cons Tryz.call23 (Bodies.cons Tryz.call24 (Bodies.cons Tryz.call25 (Bodies.cons Tryz.call26 (Bodies.cons Tryz.call27 (Bodies.cons Tryz.call30 (Bodies.cons Tryz.call31 (Bodies.cons Tryz.call40 (Bodies.cons Tryz.call41 (Bodies.cons Tryz.call42 (Bodies.cons Tryz.call43 (Bodies.cons Tryz.call44 (Bodies.cons Tryz.call45 Bodies.nil)))))))))))))))))) (Eq.mp (by kernel_rfl : LIntervalContains Tryz.prog a b d e f g i h K = _) hvc)
end Go.Proofs.YtekkjhmfjplljaaGreatDoor
