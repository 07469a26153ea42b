/-
  Texts of this proof, merged by a program of ours: VcV.
-/
import Derived.Test.YtekkjhmfjplljaaGreatDoorProg
import Derived.Test.YtekkjhmfjplljaaGreatDoorG05
import Derived.Test.YtekkjhmfjplljaaGreatDoorG08
import Derived.Test.YtekkjhmfjplljaaGreatDoorG19
/-
  Written by wip/tools/vcgen.py: what is asked of each function's body; each equation is checked by the kernel.
-/
namespace Go.Proofs.YtekkjhmfjplljaaGreatDoor
open Go
set_option maxRecDepth 100000
set_option linter.unusedVariables false
variable {h : Heap} {K : Value -> Heap -> Prop}
abbrev f_IvLeast : Nat := 74
abbrev f_IvGreatest : Nat := 73
abbrev f_IvSpan : Nat := 114
abbrev f_IvValid : Nat := 23
abbrev f_IvContains : Nat := 26
abbrev f_IvWidth : Nat := 36
abbrev f_IvMiddle : Nat := 38
abbrev f_IvAdd1 : Nat := 98
abbrev f_IvMul1 : Nat := 99
abbrev f_IvPow1 : Nat := 62
abbrev f_IvNeg : Nat := 48
abbrev f_IvAdd : Nat := 41
abbrev f_IvSub : Nat := 42
abbrev f_IvMul : Nat := 43
abbrev f_IvDiv : Nat := 45
abbrev f_IvPow : Nat := 13
abbrev f_IvPower2 : Nat := 64
abbrev f_IvRoundOut : Nat := 15
abbrev f_IvPoint : Nat := 105
abbrev f_RfRead : Nat := 34
abbrev f_RfWrite : Nat := 49
abbrev f_RfSpan : Nat := 76
abbrev f_RfPlus : Nat := 51
abbrev f_RfMinus : Nat := 50
abbrev f_RfTimes : Nat := 52
abbrev f_RfHas : Nat := 94
abbrev f_RfPower : Nat := 63
abbrev f_RfContains : Nat := 35
abbrev f_RfWidth : Nat := 37
abbrev f_RfMiddle : Nat := 39
abbrev f_RfPair : Nat := 46
abbrev f_RfDiv : Nat := 47
abbrev f_RfPow : Nat := 14
abbrev f_RfIntersect : Nat := 19
abbrev f_RfHull : Nat := 21
abbrev f_RfRoundOut : Nat := 16
abbrev f_RfPower01 : Nat := 115
abbrev f_KpShort : Nat := 11
abbrev f_KpMod : Nat := 24
abbrev f_LAwake : Nat := 12
abbrev f_LShort : Nat := 17
abbrev f_LOrdered : Nat := 22
abbrev f_LNear : Nat := 40
abbrev f_LIntervalBasics : Nat := 6
abbrev f_LIntervalArithmetic : Nat := 8
abbrev f_LIntervalPow : Nat := 3
abbrev f_LIntervalContains : Nat := 7
abbrev f_LIntervalRounding : Nat := 5
abbrev ty_tIvs : Nat := 68
abbrev ty_tIvs_e : Nat := 23
theorem tIvs : SliceT Tryz.prog ty_tIvs ty_tIvs_e (.agg #[.string ({ data := #[] } : ByteArray), .string ({ data := #[] } : ByteArray)]) 2 32 := ⟨by kernel_rfl, by kernel_rfl, rfl, by decide⟩
def IvLeast (P : Program) (l : ByteArray) (m : OA) (i o : Nat) (h : Heap) (K : Value -> Heap -> Prop) : Prop :=
  ∃ (d : List Value -> Heap -> Prop) (e : List Value -> Heap -> Nat), d [.string l, I 0] h /\
  ∀ (b : ByteArray) (a : Int), ∀ c, d [.string b, I a] c -> Br (decide (a < (i : Int))) (∃ k, m = some k /\ 0 <= a /\ a < (i : Int) /\ ∃ (f : ByteArray), Heap.cell? c (Addr.add k ((a).toNat * 1)) = some (.string f) /\ FCall P f_TCompare #[.string f, .string b] c (fun n g => ∃ (j : Int), n = I j /\ Br (decide (j < (0 : Int))) (d [.string f, I (wi64 (a + 1))] g /\ e [.string f, I (wi64 (a + 1))] g < e [.string b, I a] c)
  (d [.string b, I (wi64 (a + 1))] g /\ e [.string b, I (wi64 (a + 1))] g < e [.string b, I a] c)))
  (K (.string b) c)
theorem IvLeast_ok (a : ByteArray) (b : OA) (d e : Nat) (hvc : IvLeast Tryz.prog a b d e h K) : FCall Tryz.prog f_IvLeast #[.string a, .slice b d e] h K :=
  fn_sound Tryz.func74 (c := codeOf Tryz.f74) (by kernel_rfl) (rs := [.tmp 4]) (by kernel_rfl) (fa := { loops := [(2, { slots := [0, 9], owns := [], zs := [.string ⟨#[]⟩, .int .i64 0], lim := { slots := [0, 6, 9, 10, 11, 12, 13, 14, 15, 16, 17, 18], keys := [] } })], cuts := [], orders := [] })
    (cfg := { n := 20, own := [], lim := none, fns := [29], wr := [] }) (args := [.string a, .slice b d e]) (by kernel_rfl) (Bodies.cons Tryz.call29 Bodies.nil) (Eq.mp (by kernel_rfl : IvLeast Tryz.prog a b d e h K = _) hvc)
def IvGreatest (P : Program) (l : ByteArray) (m : OA) (i o : Nat) (h : Heap) (K : Value -> Heap -> Prop) : Prop :=
  ∃ (d : List Value -> Heap -> Prop) (e : List Value -> Heap -> Nat), d [.string l, I 0] h /\
  ∀ (b : ByteArray) (a : Int), ∀ c, d [.string b, I a] c -> Br (decide (a < (i : Int))) (∃ k, m = some k /\ 0 <= a /\ a < (i : Int) /\ ∃ (f : ByteArray), Heap.cell? c (Addr.add k ((a).toNat * 1)) = some (.string f) /\ FCall P f_TCompare #[.string f, .string b] c (fun n g => ∃ (j : Int), n = I j /\ Br (decide (j > (0 : Int))) (d [.string f, I (wi64 (a + 1))] g /\ e [.string f, I (wi64 (a + 1))] g < e [.string b, I a] c)
  (d [.string b, I (wi64 (a + 1))] g /\ e [.string b, I (wi64 (a + 1))] g < e [.string b, I a] c)))
  (K (.string b) c)
theorem IvGreatest_ok (a : ByteArray) (b : OA) (d e : Nat) (hvc : IvGreatest Tryz.prog a b d e h K) : FCall Tryz.prog f_IvGreatest #[.string a, .slice b d e] h K :=
  fn_sound Tryz.func73 (c := codeOf Tryz.f73) (by kernel_rfl) (rs := [.tmp 4]) (by kernel_rfl) (fa := { loops := [(2, { slots := [0, 9], owns := [], zs := [.string ⟨#[]⟩, .int .i64 0], lim := { slots := [0, 6, 9, 10, 11, 12, 13, 14, 15, 16, 17, 18], keys := [] } })], cuts := [], orders := [] })
    (cfg := { n := 20, own := [], lim := none, fns := [29], wr := [] }) (args := [.string a, .slice b d e]) (by kernel_rfl) (Bodies.cons Tryz.call29 Bodies.nil) (Eq.mp (by kernel_rfl : IvGreatest Tryz.prog a b d e h K = _) hvc)
def IvSpan (P : Program) (a : ByteArray) (b : OA) (c d : Nat) (h : Heap) (K : Value -> Heap -> Prop) : Prop :=
  FCall P f_IvLeast #[.string a, .slice b c d] h (fun g i => ∃ (e : ByteArray), g = .string e /\ FCall P f_IvGreatest #[.string a, .slice b c d] i (fun j k => ∃ (f : ByteArray), j = .string f /\ K (.agg #[.string e, .string f]) k))
theorem IvSpan_ok (a : ByteArray) (b : OA) (d e : Nat) (hvc : IvSpan Tryz.prog a b d e h K) : FCall Tryz.prog f_IvSpan #[.string a, .slice b d e] h K :=
  fn_sound Tryz.func114 (c := codeOf Tryz.f114) (by kernel_rfl) (rs := [.cell 4 23]) (by kernel_rfl) (fa := { loops := [], cuts := [], orders := [] })
    (cfg := { n := 12, own := [4], lim := none, fns := [73, 74], wr := [] }) (args := [.string a, .slice b d e]) (by kernel_rfl) (Bodies.cons Tryz.call73 (Bodies.cons Tryz.call74 Bodies.nil)) (Eq.mp (by kernel_rfl : IvSpan Tryz.prog a b d e h K = _) hvc)
def IvValid (P : Program) (a b : ByteArray) (h : Heap) (K : Value -> Heap -> Prop) : Prop :=
  FCall P f_TValid #[.string a] h (fun i f => ∃ (c : Bool), i = .bool c /\ Br c (FCall P f_TValid #[.string b] f (fun j g => ∃ (d : Bool), j = .bool d /\ Br d (FCall P f_TCompare #[.string a, .string b] g (fun k l => ∃ (e : Int), k = I e /\ K (.bool (decide (e <= (0 : Int)))) l))
  (K (.bool false) g)))
  (K (.bool false) f))
theorem IvValid_ok (a b : ByteArray) (hvc : IvValid Tryz.prog a b h K) : FCall Tryz.prog f_IvValid #[.agg #[.string a, .string b]] h K :=
  fn_sound Tryz.func23 (c := codeOf Tryz.f23) (by kernel_rfl) (rs := [.tmp 2]) (by kernel_rfl) (fa := { loops := [], cuts := [], orders := [] })
    (cfg := { n := 19, own := [1], lim := none, fns := [29, 77], wr := [] }) (args := [.agg #[.string a, .string b]]) (by kernel_rfl) (Bodies.cons Tryz.call29 (Bodies.cons Tryz.call77 Bodies.nil)) (Eq.mp (by kernel_rfl : IvValid Tryz.prog a b h K = _) hvc)
def IvContains (P : Program) (b c a : ByteArray) (h : Heap) (K : Value -> Heap -> Prop) : Prop :=
  FCall P f_IvValid #[.agg #[.string b, .string c]] h (fun l i => ∃ (d : Bool), l = .bool d /\ Br d (FCall P f_TValid #[.string a] i (fun m j => ∃ (e : Bool), m = .bool e /\ Br e (FCall P f_TCompare #[.string b, .string a] j (fun n k => ∃ (f : Int), n = I f /\ Br (decide (f <= (0 : Int))) (FCall P f_TCompare #[.string a, .string c] k (fun o p => ∃ (g : Int), o = I g /\ K (.bool (decide (g <= (0 : Int)))) p))
  (K (.bool false) k)))
  (K (.bool false) j)))
  (K (.bool false) i))
theorem IvContains_ok (a b d : ByteArray) (hvc : IvContains Tryz.prog a b d h K) : FCall Tryz.prog f_IvContains #[.agg #[.string a, .string b], .string d] h K :=
  fn_sound Tryz.func26 (c := codeOf Tryz.f26) (by kernel_rfl) (rs := [.tmp 4]) (by kernel_rfl) (fa := { loops := [], cuts := [], orders := [] })
    (cfg := { n := 25, own := [2], lim := none, fns := [23, 29, 77], wr := [] }) (args := [.agg #[.string a, .string b], .string d]) (by kernel_rfl) (Bodies.cons Tryz.call23 (Bodies.cons Tryz.call29 (Bodies.cons Tryz.call77 Bodies.nil))) (Eq.mp (by kernel_rfl : IvContains Tryz.prog a b d h K = _) hvc)
def IvMul1 (P : Program) (f g : ByteArray) (i j : ByteArray) (h : Heap) (K : Value -> Heap -> Prop) : Prop :=
  FCall P f_TMul #[.string f, .string i] h (fun u a => ∃ (k : ByteArray), u = .string k /\ Heap.le h a /\ FCall P f_TMul #[.string f, .string j] a (fun v b => ∃ (l : ByteArray), v = .string l /\ Heap.le a b /\ FCall P f_TMul #[.string g, .string i] b (fun w c => ∃ (m : ByteArray), w = .string m /\ Heap.le b c /\ FCall P f_TMul #[.string g, .string j] c (fun x d => ∃ (n : ByteArray), x = .string n /\ Heap.le c d /\ wpH P (Instr.buildSlice 75 3 #[(0, .string l), (1, .string m), (2, .string n)]) (fun y e => ∃ (o : OA) (p q : Nat), y = .slice o p q /\ Heap.le d e /\ FCall P f_IvSpan #[.string k, .slice o p q] e (fun z t => ∃ (r s : ByteArray), z = .agg #[.string r, .string s] /\ Heap.le e t /\ K (.agg #[.string r, .string s]) t)) d))))
theorem IvMul1_ok (a b : ByteArray) (d e : ByteArray) (hvc : IvMul1 Tryz.prog a b d e h K) : FCall Tryz.prog f_IvMul1 #[.agg #[.string a, .string b], .agg #[.string d, .string e]] h K :=
  fn_sound Tryz.func99 (c := codeOf Tryz.f99) (by kernel_rfl) (rs := [.cell 4 23]) (by kernel_rfl) (fa := { loops := [], cuts := [], orders := [(1, ([0, 1, 2, 3, 5, 6, 7, 8, 10, 11, 12, 13, 15, 16, 17, 18, 4, 9, 14, 19, 20, 21, 22], [[], [0], [], [2], [0, 1, 2, 3], [], [5], [], [7], [0, 1, 2, 3, 4, 5, 6, 7, 8], [], [10], [], [12], [0, 1, 2, 3, 4, 5, 6, 7, 8, 9, 10, 11, 12, 13], [], [15], [], [17], [0, 1, 2, 3, 4, 5, 6, 7, 8, 9, 10, 11, 12, 13, 14, 15, 16, 17, 18], [0, 1, 2, 3, 4, 5, 6, 7, 8, 9, 10, 11, 12, 13, 14, 15, 16, 17, 18, 19], [0, 1, 2, 3, 4, 5, 6, 7, 8, 9, 10, 11, 12, 13, 14, 15, 16, 17, 18, 19, 20], [0, 1, 2, 3, 4, 5, 6, 7, 8, 9, 10, 11, 12, 13, 14, 15, 16, 17, 18, 19, 20, 21]]))] })
    (cfg := { n := 27, own := [2, 3, 4], lim := none, fns := [44, 114], wr := [] }) (args := [.agg #[.string a, .string b], .agg #[.string d, .string e]]) (by kernel_rfl) (Bodies.cons Tryz.call44 (Bodies.cons Tryz.call114 Bodies.nil)) (Eq.mp (by kernel_rfl : IvMul1 Tryz.prog a b d e h K = _) hvc)
def IvPow1 (P : Program) (e f : ByteArray) (c : Int) (h : Heap) (K : Value -> Heap -> Prop) : Prop :=
  FCall P f_TPow #[.string e, I c] h (fun O Q => ∃ (a : ByteArray) (M : Bool), O = .tuple #[.string a, .bool M] /\ FCall P f_TPow #[.string f, I c] Q (fun R d => ∃ (b : ByteArray) (N : Bool), R = .tuple #[.string b, .bool N] /\ Br (decide (c > (0 : Int))) (Br ((Int.tmod c (2 : Int)) == (0 : Int)) (FCall P f_TSign #[.string e] d (fun S J => ∃ (g : Int), S = I g /\ Br (decide (g < (0 : Int))) (FCall P f_TSign #[.string f] J (fun T L => ∃ (i : Int), T = I i /\ Br (decide (i > (0 : Int))) (wpH P (Instr.buildSlice 75 2 #[(0, .string a), (1, .string b)]) (fun V W => ∃ (j : OA) (k l : Nat), V = .slice j k l /\ FCall P f_IvSpan #[.string ({ data := #[48] } : ByteArray), .slice j k l] W (fun X Z => ∃ (m n : ByteArray), X = .agg #[.string m, .string n] /\ K (.agg #[.string m, .string n]) Z)) L)
  (wpH P (Instr.buildSlice 75 1 #[(0, .string b)]) (fun a0 a1 => ∃ (o : OA) (p q : Nat), a0 = .slice o p q /\ FCall P f_IvSpan #[.string a, .slice o p q] a1 (fun a2 a3 => ∃ (r s : ByteArray), a2 = .agg #[.string r, .string s] /\ K (.agg #[.string r, .string s]) a3)) L)))
  (wpH P (Instr.buildSlice 75 1 #[(0, .string b)]) (fun a4 a5 => ∃ (t : OA) (u v : Nat), a4 = .slice t u v /\ FCall P f_IvSpan #[.string a, .slice t u v] a5 (fun a6 a7 => ∃ (w x : ByteArray), a6 = .agg #[.string w, .string x] /\ K (.agg #[.string w, .string x]) a7)) J)))
  (wpH P (Instr.buildSlice 75 1 #[(0, .string b)]) (fun a8 a9 => ∃ (y : OA) (z A : Nat), a8 = .slice y z A /\ FCall P f_IvSpan #[.string a, .slice y z A] a9 (fun b0 b1 => ∃ (B C : ByteArray), b0 = .agg #[.string B, .string C] /\ K (.agg #[.string B, .string C]) b1)) d))
  (wpH P (Instr.buildSlice 75 1 #[(0, .string b)]) (fun b2 b3 => ∃ (D : OA) (E F : Nat), b2 = .slice D E F /\ FCall P f_IvSpan #[.string a, .slice D E F] b3 (fun b4 b5 => ∃ (G H : ByteArray), b4 = .agg #[.string G, .string H] /\ K (.agg #[.string G, .string H]) b5)) d)))
theorem IvPow1_ok (a b : ByteArray) (d : Int) (hvc : IvPow1 Tryz.prog a b d h K) : FCall Tryz.prog f_IvPow1 #[.agg #[.string a, .string b], I d] h K :=
  fn_sound Tryz.func62 (c := codeOf Tryz.f62) (by kernel_rfl) (rs := [.cell 4 23]) (by kernel_rfl) (fa := { loops := [], cuts := [], orders := [] })
    (cfg := { n := 50, own := [2, 4], lim := none, fns := [25, 113, 114], wr := [] }) (args := [.agg #[.string a, .string b], I d]) (by kernel_rfl) (Bodies.cons Tryz.call25 (Bodies.cons Tryz.call113 (Bodies.cons Tryz.call114 Bodies.nil))) (Eq.mp (by kernel_rfl : IvPow1 Tryz.prog a b d h K = _) hvc)
def IvMul (P : Program) (a b : ByteArray) (c d : ByteArray) (h : Heap) (K : Value -> Heap -> Prop) : Prop :=
  FCall P f_IvValid #[.agg #[.string a, .string b]] h (fun l j => ∃ (e : Bool), l = .bool e /\ Br (!e) (K (.tuple #[.agg #[.string ({ data := #[] } : ByteArray), .string ({ data := #[] } : ByteArray)], I 1]) j)
  (FCall P f_IvValid #[.agg #[.string c, .string d]] j (fun m k => ∃ (f : Bool), m = .bool f /\ Br (!f) (K (.tuple #[.agg #[.string ({ data := #[] } : ByteArray), .string ({ data := #[] } : ByteArray)], I 1]) k)
  (FCall P f_IvMul1 #[.agg #[.string a, .string b], .agg #[.string c, .string d]] k (fun n o => ∃ (g i : ByteArray), n = .agg #[.string g, .string i] /\ K (.tuple #[.agg #[.string g, .string i], I 0]) o)))))
theorem IvMul_ok (a b : ByteArray) (d e : ByteArray) (hvc : IvMul Tryz.prog a b d e h K) : FCall Tryz.prog f_IvMul #[.agg #[.string a, .string b], .agg #[.string d, .string e]] h K :=
  fn_sound Tryz.func43 (c := codeOf Tryz.f43) (by kernel_rfl) (rs := [.cell 4 23, .tmp 5]) (by kernel_rfl) (fa := { loops := [], cuts := [], orders := [] })
    (cfg := { n := 18, own := [2, 3, 4], lim := none, fns := [23, 99], wr := [] }) (args := [.agg #[.string a, .string b], .agg #[.string d, .string e]]) (by kernel_rfl) (Bodies.cons Tryz.call23 (Bodies.cons Tryz.call99 Bodies.nil)) (Eq.mp (by kernel_rfl : IvMul Tryz.prog a b d e h K = _) hvc)
def IvPow (P : Program) (c d : ByteArray) (b : Int) (h : Heap) (K : Value -> Heap -> Prop) : Prop :=
  FCall P f_IvValid #[.agg #[.string c, .string d]] h (fun i a => ∃ (e : Bool), i = .bool e /\ Br (!e) (K (.tuple #[.agg #[.string ({ data := #[] } : ByteArray), .string ({ data := #[] } : ByteArray)], I 1]) a)
  (Br (decide (b < (0 : Int))) (K (.tuple #[.agg #[.string ({ data := #[] } : ByteArray), .string ({ data := #[] } : ByteArray)], I 3]) a)
  (Br (decide (b > (24 : Int))) (K (.tuple #[.agg #[.string ({ data := #[] } : ByteArray), .string ({ data := #[] } : ByteArray)], I 3]) a)
  (FCall P f_IvPow1 #[.agg #[.string c, .string d], I b] a (fun j k => ∃ (f g : ByteArray), j = .agg #[.string f, .string g] /\ K (.tuple #[.agg #[.string f, .string g], I 0]) k)))))
theorem IvPow_ok (a b : ByteArray) (d : Int) (hvc : IvPow Tryz.prog a b d h K) : FCall Tryz.prog f_IvPow #[.agg #[.string a, .string b], I d] h K :=
  fn_sound Tryz.func13 (c := codeOf Tryz.f13) (by kernel_rfl) (rs := [.cell 4 23, .tmp 5]) (by kernel_rfl) (fa := { loops := [], cuts := [], orders := [] })
    (cfg := { n := 20, own := [2, 4], lim := none, fns := [23, 62], wr := [] }) (args := [.agg #[.string a, .string b], I d]) (by kernel_rfl) (Bodies.cons Tryz.call23 (Bodies.cons Tryz.call62 Bodies.nil)) (Eq.mp (by kernel_rfl : IvPow Tryz.prog a b d h K = _) hvc)
def IvPower2 (P : Program) (a : Int) (h : Heap) (K : Value -> Heap -> Prop) : Prop :=
  Br (decide (a <= (1000 : Int))) (FCall P f_TPow #[.string ({ data := #[50] } : ByteArray), I a] h (fun g i => ∃ (b : ByteArray) (f : Bool), g = .tuple #[.string b, .bool f] /\ K (.string b) i))
  (FCall P f_IvPower2 #[I (wi64 (Int.tdiv a (2 : Int)))] h (fun j k => ∃ (c : ByteArray), j = .string c /\ FCall P f_IvPower2 #[I (wi64 (a - (wi64 (Int.tdiv a (2 : Int)))))] k (fun l m => ∃ (d : ByteArray), l = .string d /\ FCall P f_TMul #[.string c, .string d] m (fun n o => ∃ (e : ByteArray), n = .string e /\ K (.string e) o))))
theorem IvPower2_ok (a : Int) (hvc : IvPower2 Tryz.prog a h K) : FCall Tryz.prog f_IvPower2 #[I a] h K :=
  fn_sound Tryz.func64 (c := codeOf Tryz.f64) (by kernel_rfl) (rs := [.tmp 2]) (by kernel_rfl) (fa := { loops := [], cuts := [], orders := [] })
    (cfg := { n := 22, own := [], lim := none, fns := [25, 44, 64], wr := [] }) (args := [I a]) (by kernel_rfl) (Bodies.cons Tryz.call25 (Bodies.cons Tryz.call44 (Bodies.cons Tryz.call64 Bodies.nil))) (Eq.mp (by kernel_rfl : IvPower2 Tryz.prog a h K = _) hvc)
def IvRoundOut (P : Program) (d e : ByteArray) (c : Int) (h : Heap) (K : Value -> Heap -> Prop) : Prop :=
  FCall P f_IvValid #[.agg #[.string d, .string e]] h (fun p b => ∃ (f : Bool), p = .bool f /\ Br (!f) (K (.tuple #[.agg #[.string ({ data := #[] } : ByteArray), .string ({ data := #[] } : ByteArray)], I 1]) b)
  (Br (decide (c < (0 : Int))) (K (.tuple #[.agg #[.string ({ data := #[] } : ByteArray), .string ({ data := #[] } : ByteArray)], I 3]) b)
  (Br (decide (c > (4096 : Int))) (K (.tuple #[.agg #[.string ({ data := #[] } : ByteArray), .string ({ data := #[] } : ByteArray)], I 3]) b)
  (FCall P f_IvPower2 #[I c] b (fun q r => ∃ (a : ByteArray), q = .string a /\ FCall P f_TMul #[.string d, .string a] r (fun s t => ∃ (g : ByteArray), s = .string g /\ FCall P f_TFloor #[.string g] t (fun u v => ∃ (i : ByteArray), u = .string i /\ FCall P f_TDiv #[.string i, .string a] v (fun w x => ∃ (j : ByteArray) (n : Bool), w = .tuple #[.string j, .bool n] /\ FCall P f_TMul #[.string e, .string a] x (fun y z => ∃ (k : ByteArray), y = .string k /\ FCall P f_TCeil #[.string k] z (fun A B => ∃ (l : ByteArray), A = .string l /\ FCall P f_TDiv #[.string l, .string a] B (fun C D => ∃ (m : ByteArray) (o : Bool), C = .tuple #[.string m, .bool o] /\ K (.tuple #[.agg #[.string j, .string m], I 0]) D)))))))))))
theorem IvRoundOut_ok (a b : ByteArray) (d : Int) (hvc : IvRoundOut Tryz.prog a b d h K) : FCall Tryz.prog f_IvRoundOut #[.agg #[.string a, .string b], I d] h K :=
  fn_sound Tryz.func15 (c := codeOf Tryz.f15) (by kernel_rfl) (rs := [.cell 4 23, .tmp 5]) (by kernel_rfl) (fa := { loops := [], cuts := [], orders := [] })
    (cfg := { n := 47, own := [2, 4], lim := none, fns := [23, 27, 28, 44, 64, 65], wr := [] }) (args := [.agg #[.string a, .string b], I d]) (by kernel_rfl) (Bodies.cons Tryz.call23 (Bodies.cons Tryz.call27 (Bodies.cons Tryz.call28 (Bodies.cons Tryz.call44 (Bodies.cons Tryz.call64 (Bodies.cons Tryz.call65 Bodies.nil)))))) (Eq.mp (by kernel_rfl : IvRoundOut Tryz.prog a b d h K = _) hvc)
def KpShort (P : Program) (i : Int) (j : OA) (d k : Nat) (h : Heap) (K : Value -> Heap -> Prop) : Prop :=
  ∃ (c : List Value -> Heap -> Prop) (e : List Value -> Heap -> Nat), c [I 0] h /\
  ∀ (a : Int), ∀ b, c [I a] b -> Br (decide (a < (d : Int))) (∃ g, j = some g /\ 0 <= a /\ a < (d : Int) /\ ∃ (f : ByteArray), Heap.cell? b (Addr.add g ((a).toNat * 1)) = some (.string f) /\ Br (decide (((ByteArray.size f : Nat) : Int) > i)) (K (.bool false) b)
  (c [I (wi64 (a + 1))] b /\ e [I (wi64 (a + 1))] b < e [I a] b))
  (K (.bool true) b)
theorem KpShort_ok (a : Int) (b : OA) (d e : Nat) (hvc : KpShort Tryz.prog a b d e h K) : FCall Tryz.prog f_KpShort #[I a, .slice b d e] h K :=
  fn_sound Tryz.func11 (c := codeOf Tryz.f11) (by kernel_rfl) (rs := [.tmp 4]) (by kernel_rfl) (fa := { loops := [(2, { slots := [5], owns := [], zs := [.int .i64 0], lim := { slots := [4, 5, 6, 7, 8, 9, 10, 11, 12, 13, 14, 15, 16, 17, 18], keys := [] } })], cuts := [], orders := [] })
    (cfg := { n := 19, own := [], lim := none, fns := [], wr := [] }) (args := [I a, .slice b d e]) (by kernel_rfl) Bodies.nil (Eq.mp (by kernel_rfl : KpShort Tryz.prog a b d e h K = _) hvc)
def KpMod (P : Program) (b : Int) (a : Int) (h : Heap) (K : Value -> Heap -> Prop) : Prop :=
  Br (decide (a = 0)) False
  (Br (decide ((Int.tmod b a) < (0 : Int))) (K (I (wi64 ((Int.tmod b a) + a))) h)
  (K (I (Int.tmod b a)) h))
theorem KpMod_ok (a : Int) (b : Int) (hvc : KpMod Tryz.prog a b h K) : FCall Tryz.prog f_KpMod #[I a, I b] h K :=
  fn_sound Tryz.func24 (c := codeOf Tryz.f24) (by kernel_rfl) (rs := [.tmp 4]) (by kernel_rfl) (fa := { loops := [], cuts := [], orders := [] })
    (cfg := { n := 15, own := [], lim := none, fns := [], wr := [] }) (args := [I a, I b]) (by kernel_rfl) Bodies.nil (Eq.mp (by kernel_rfl : KpMod Tryz.prog a b h K = _) hvc)
def LAwake (P : Program)  (h : Heap) (K : Value -> Heap -> Prop) : Prop :=
  FCall P f_IvMul #[.agg #[.string ({ data := #[45, 49] } : ByteArray), .string ({ data := #[50] } : ByteArray)], .agg #[.string ({ data := #[45, 49] } : ByteArray), .string ({ data := #[50] } : ByteArray)]] h (fun l m => ∃ (b c : ByteArray) (d : Int), l = .tuple #[.agg #[.string b, .string c], I d] /\ FCall P f_IvPow #[.agg #[.string ({ data := #[45, 49] } : ByteArray), .string ({ data := #[50] } : ByteArray)], I 2] m (fun n o => ∃ (e f : ByteArray) (g : Int), n = .tuple #[.agg #[.string e, .string f], I g] /\ FCall P f_IvRoundOut #[.agg #[.string ({ data := #[49, 47, 51] } : ByteArray), .string ({ data := #[49, 47, 51] } : ByteArray)], I 2] o (fun p a => ∃ (i j : ByteArray) (k : Int), p = .tuple #[.agg #[.string i, .string j], I k] /\ Br (d == (0 : Int)) (Br (g == (0 : Int)) (Br (k == (0 : Int)) (Br ((ByteArray.toList b == ByteArray.toList ({ data := #[45, 50] } : ByteArray)) && ((ByteArray.toList c == ByteArray.toList ({ data := #[52] } : ByteArray)) && true)) (Br ((ByteArray.toList e == ByteArray.toList ({ data := #[48] } : ByteArray)) && ((ByteArray.toList f == ByteArray.toList ({ data := #[52] } : ByteArray)) && true)) (K (.bool ((ByteArray.toList i == ByteArray.toList ({ data := #[49, 47, 52] } : ByteArray)) && ((ByteArray.toList j == ByteArray.toList ({ data := #[49, 47, 50] } : ByteArray)) && true))) a)
  (K (.bool false) a))
  (K (.bool false) a))
  (K (.bool false) a))
  (K (.bool false) a))
  (K (.bool false) a))))
theorem LAwake_ok  (hvc : LAwake Tryz.prog  h K) : FCall Tryz.prog f_LAwake #[] h K :=
  fn_sound Tryz.func12 (c := codeOf Tryz.f12) (by kernel_rfl) (rs := [.tmp 0]) (by kernel_rfl) (fa := { loops := [], cuts := [], orders := [] })
    (cfg := { n := 50, own := [1, 2, 4, 6], lim := none, fns := [13, 15, 43], wr := [] }) (args := []) (by kernel_rfl) (Bodies.cons Tryz.call13 (Bodies.cons Tryz.call15 (Bodies.cons Tryz.call43 Bodies.nil))) (Eq.mp (by kernel_rfl : LAwake Tryz.prog  h K = _) hvc)
def LShort (P : Program) (g : OA) (d t : Nat) (h : Heap) (K : Value -> Heap -> Prop) : Prop :=
  ∃ (e : List Value -> Heap -> Prop) (i : List Value -> Heap -> Nat), e [I 0] h /\
  ∀ (a : Int), ∀ b, e [I a] b -> Br (decide (a < (d : Int))) (∃ p, g = some p /\ 0 <= a /\ a < (d : Int) /\ ∃ (j : ByteArray), Heap.cell? b (Addr.add (Addr.add p ((a).toNat * 2)) 0) = some (.string j) /\ ∃ q, g = some q /\ 0 <= a /\ a < (d : Int) /\ ∃ (k : ByteArray), Heap.cell? b (Addr.add (Addr.add q ((a).toNat * 2)) 1) = some (.string k) /\ wpH P (Instr.buildSlice 75 2 #[(0, .string j), (1, .string k)]) (fun r f => ∃ (l : OA) (m n : Nat), r = .slice l m n /\ Heap.le b f /\ FCall P f_KpShort #[I 20, .slice l m n] f (fun s c => ∃ (o : Bool), s = .bool o /\ Heap.le f c /\ Br (!o) (K (.bool false) c)
  (e [I (wi64 (a + 1))] c /\ i [I (wi64 (a + 1))] c < i [I a] b))) b)
  (K (.bool true) b)
theorem LShort_ok (a : OA) (b d : Nat) (hvc : LShort Tryz.prog a b d h K) : FCall Tryz.prog f_LShort #[.slice a b d] h K :=
  fn_sound Tryz.func17 (c := codeOf Tryz.f17) (by kernel_rfl) (rs := [.tmp 2]) (by kernel_rfl) (fa := { loops := [(2, { slots := [3], owns := [], zs := [.int .i64 0], lim := { slots := [2, 3, 4, 5, 6, 7, 8, 9, 10, 11, 12, 13, 14, 15, 16, 17, 18, 19, 20, 21, 22], keys := [] } })], cuts := [], orders := [(4, ([0, 1, 2, 3, 4, 5, 6, 7, 8, 9, 10, 11, 12], [[], [], [0, 1], [0, 1, 2], [0, 1, 2, 3], [], [], [5, 6], [5, 6, 7], [5, 6, 7, 8], [0, 1, 2, 3, 4, 5, 6, 7, 8, 9], [0, 1, 2, 3, 4, 5, 6, 7, 8, 9, 10], [0, 1, 2, 3, 4, 5, 6, 7, 8, 9, 10, 11]]))] })
    (cfg := { n := 23, own := [], lim := none, fns := [11], wr := [] }) (args := [.slice a b d]) (by kernel_rfl) (Bodies.cons Tryz.call11 Bodies.nil) (Eq.mp (by kernel_rfl : LShort Tryz.prog a b d h K = _) hvc)
def LOrdered (P : Program) (a b : ByteArray) (h : Heap) (K : Value -> Heap -> Prop) : Prop :=
  FCall P f_TCompare #[.string a, .string b] h (fun e d => ∃ (c : Int), e = I c /\ Br (decide (c > (0 : Int))) (K (.agg #[.string b, .string a]) d)
  (K (.agg #[.string a, .string b]) d))
theorem LOrdered_ok (a b : ByteArray) (hvc : LOrdered Tryz.prog a b h K) : FCall Tryz.prog f_LOrdered #[.agg #[.string a, .string b]] h K :=
  fn_sound Tryz.func22 (c := codeOf Tryz.f22) (by kernel_rfl) (rs := [.cell 2 23]) (by kernel_rfl) (fa := { loops := [], cuts := [], orders := [] })
    (cfg := { n := 16, own := [1, 2], lim := none, fns := [29], wr := [] }) (args := [.agg #[.string a, .string b]]) (by kernel_rfl) (Bodies.cons Tryz.call29 Bodies.nil) (Eq.mp (by kernel_rfl : LOrdered Tryz.prog a b h K = _) hvc)
def LIntervalRounding (P : Program) (b8 b9 : ByteArray) (c0 : Int) (c1 : Int) (h : Heap) (K : Value -> Heap -> Prop) : Prop :=
  FCall P f_LOrdered #[.agg #[.string b8, .string b9]] h (fun c2 c3 => ∃ (b c : ByteArray), c2 = .agg #[.string b, .string c] /\ wpH P (Instr.buildSlice 68 1 #[(0, .agg #[.string b, .string c])]) (fun c4 c5 => ∃ (v : OA) (w x : Nat), c4 = .slice v w x /\ FCall P f_LShort #[.slice v w x] c5 (fun c6 b1 => ∃ (y : Bool), c6 = .bool y /\ Br (!y) (FCall P f_LAwake #[] b1 (fun c7 c8 => ∃ (z : Bool), c7 = .bool z /\ K (.bool z) c8))
  (FCall P f_IvValid #[.agg #[.string b, .string c]] b1 (fun c9 b2 => ∃ (A : Bool), c9 = .bool A /\ Br (!A) (FCall P f_LAwake #[] b2 (fun d0 d1 => ∃ (B : Bool), d0 = .bool B /\ K (.bool B) d1))
  (FCall P f_KpMod #[I c0, I 60] b2 (fun d2 d3 => ∃ (j : Int), d2 = I j /\ FCall P f_KpMod #[I c1, I 60] d3 (fun d4 d5 => ∃ (C : Int), d4 = I C /\ FCall P f_IvRoundOut #[.agg #[.string b, .string c], I j] d5 (fun d6 d7 => ∃ (d e : ByteArray) (D : Int), d6 = .tuple #[.agg #[.string d, .string e], I D] /\ FCall P f_IvRoundOut #[.agg #[.string b, .string c], I (wi64 (j + C))] d7 (fun d8 d9 => ∃ (E F : ByteArray) (G : Int), d8 = .tuple #[.agg #[.string E, .string F], I G] /\ FCall P f_TPow #[.string ({ data := #[50] } : ByteArray), I (wi64 (0 - j))] d9 (fun e0 k => ∃ (f : ByteArray) (H : Bool), e0 = .tuple #[.string f, .bool H] /\ ∃ (a : List Value -> Heap -> Prop), (Br (D != (0 : Int)) (a [.bool true] k)
  (Br (G != (0 : Int)) (a [.bool true] k)
  (Br (!H) (a [.bool true] k)
  (FCall P f_IvContains #[.agg #[.string d, .string e], .string b] k (fun e1 b3 => ∃ (J : Bool), e1 = .bool J /\ Br (!J) (a [.bool true] b3)
  (FCall P f_IvContains #[.agg #[.string d, .string e], .string c] b3 (fun e2 b4 => ∃ (L : Bool), e2 = .bool L /\ Br (!L) (a [.bool true] b4)
  (FCall P f_IvContains #[.agg #[.string d, .string e], .string E] b4 (fun e3 b5 => ∃ (M : Bool), e3 = .bool M /\ Br (!M) (a [.bool true] b5)
  (FCall P f_IvContains #[.agg #[.string d, .string e], .string F] b5 (fun e4 e5 => ∃ (N : Bool), e4 = .bool N /\ a [.bool (!N)] e5))))))))))) /\
  ∀ (O : Bool), ∀ u, a [.bool O] u -> Br O (K (.bool false) u)
  (FCall P f_TDiv #[.string d, .string f] u (fun e6 e7 => ∃ (g : ByteArray) (Q : Bool), e6 = .tuple #[.string g, .bool Q] /\ FCall P f_TDiv #[.string e, .string f] e7 (fun e8 q => ∃ (p : ByteArray) (R : Bool), e8 = .tuple #[.string p, .bool R] /\ ∃ (i : List Value -> Heap -> Prop), (Br (!Q) (i [.bool true] q)
  (Br (!R) (i [.bool true] q)
  (FCall P f_TFloor #[.string g] q (fun e9 b6 => ∃ (S : ByteArray), e9 = .string S /\ Br (!(ByteArray.toList g == ByteArray.toList S)) (i [.bool true] b6)
  (FCall P f_TFloor #[.string p] b6 (fun f0 f1 => ∃ (T : ByteArray), f0 = .string T /\ i [.bool (!(ByteArray.toList p == ByteArray.toList T))] f1)))))) /\
  ∀ (V : Bool), ∀ o, i [.bool V] o -> Br V (K (.bool false) o)
  (FCall P f_TAdd #[.string d, .string f] o (fun f2 r => ∃ (W : ByteArray), f2 = .string W /\ Heap.le o r /\ FCall P f_TCompare #[.string W, .string b] r (fun f3 l => ∃ (X : Int), f3 = I X /\ Heap.le r l /\ Br (decide (X > (0 : Int))) (FCall P f_TSub #[.string e, .string f] l (fun f4 s => ∃ (Z : ByteArray), f4 = .string Z /\ Heap.le l s /\ FCall P f_TCompare #[.string Z, .string c] s (fun f5 m => ∃ (a0 : Int), f5 = I a0 /\ Heap.le s m /\ Br (decide (a0 < (0 : Int))) (FCall P f_NNum #[.string g] m (fun f6 t => ∃ (a1 : Bool) (a2 : OA) (a3 a4 : Nat) (a5 : Bool) (a6 : OA) (a7 a8 : Nat), f6 = .agg #[.bool a1, .slice a2 a3 a4, .bool a5, .slice a6 a7 a8] /\ Heap.le m t /\ FCall P f_NText #[.agg #[.bool a1, .slice a2 a3 a4, .bool a5, .slice a6 a7 a8]] t (fun f7 n => ∃ (a9 : ByteArray), f7 = .string a9 /\ Heap.le t n /\ Br (ByteArray.toList a9 == ByteArray.toList g) (FCall P f_LAwake #[] n (fun f8 b7 => ∃ (b0 : Bool), f8 = .bool b0 /\ Heap.le n b7 /\ K (.bool b0) b7))
  (K (.bool false) n))))
  (K (.bool false) m))))
  (K (.bool false) l))))))))))))))))) c3)
theorem LIntervalRounding_ok (a b : ByteArray) (d : Int) (e : Int) (hvc : LIntervalRounding Tryz.prog a b d e h K) : FCall Tryz.prog f_LIntervalRounding #[.agg #[.string a, .string b], I d, I e] h K :=
  fn_sound Tryz.func5 (c := codeOf Tryz.f5) (by kernel_rfl) (rs := [.tmp 6]) (by kernel_rfl) (fa := { loops := [], cuts := [(10, { slots := [89], owns := [], zs := [.bool false], lim := { slots := [52, 53, 54, 55, 56, 57, 58, 59, 60, 61, 62, 63, 64, 65, 66, 67, 68, 69, 70, 71, 72, 73, 74, 75, 76, 77, 78, 79, 80, 81, 82, 83, 84, 85, 86, 87, 88, 89], keys := [] } }), (14, { slots := [121], owns := [], zs := [.bool false], lim := { slots := [104, 105, 106, 107, 108, 109, 110, 111, 112, 113, 114, 115, 116, 117, 118, 119, 120, 121], keys := [] } })], orders := [(15, ([0, 1, 2, 4, 5, 3, 6, 7, 8, 9, 10, 11, 13, 14, 12, 15, 16, 17, 18, 19, 22, 20, 21, 23, 24, 25, 26, 27, 28], [[], [0], [], [0, 1, 2], [], [4], [0, 1, 2, 3, 4, 5], [0, 1, 2, 3, 4, 5, 6], [0, 1, 2, 3, 4, 5, 6, 7], [0, 1, 2, 3, 4, 5, 6, 7, 8], [0, 1, 2, 3, 4, 5, 6, 7, 8, 9], [0, 1, 2, 3, 4, 5, 6, 7, 8], [0, 1, 2, 3, 4, 5, 6, 7, 8, 9, 10, 11], [0, 1, 2, 3, 4, 5, 6, 7, 8], [0, 1, 2, 3, 4, 5, 6, 7, 8, 13], [0, 1, 2, 3, 4, 5, 6, 7, 8, 9, 10, 11, 12, 13, 14], [0, 1, 2, 3, 4, 5, 6, 7, 8, 9, 10, 11, 12, 13, 14, 15], [0, 1, 2, 3, 4, 5, 6, 7, 8, 9, 10, 11, 12, 13, 14, 15, 16], [0, 1, 2, 3, 4, 5, 6, 7, 8, 9, 10, 11, 12, 13, 14, 15, 16, 17], [0, 1, 2, 3, 4, 5, 6, 7, 8, 9, 10, 11, 12, 13, 14, 15, 16, 17, 18], [0, 1, 2, 3, 4, 5, 6, 7, 8, 9, 10, 11, 12, 13, 14, 15, 16, 17, 18, 19], [0, 1, 2, 3, 4, 5, 6, 7, 8, 9, 10, 11, 12, 13, 14, 15, 16, 17, 18, 19, 20], [0, 1, 2, 3, 4, 5, 6, 7, 8, 9, 10, 11, 12, 13, 14, 15, 16, 17, 18], [0, 1, 2, 3, 4, 5, 6, 7, 8, 9, 10, 11, 12, 13, 14, 15, 16, 17, 18, 19, 20, 21, 22], [0, 1, 2, 3, 4, 5, 6, 7, 8, 9, 10, 11, 12, 13, 14, 15, 16, 17, 18, 19, 20, 21, 22, 23], [0, 1, 2, 3, 4, 5, 6, 7, 8, 9, 10, 11, 12, 13, 14, 15, 16, 17, 18, 19, 20, 21, 22, 23, 24], [0, 1, 2, 3, 4, 5, 6, 7, 8, 9, 10, 11, 12, 13, 14, 15, 16, 17, 18, 19, 20, 21, 22, 23, 24, 25], [0, 1, 2, 3, 4, 5, 6, 7, 8, 9, 10, 11, 12, 13, 14, 15, 16, 17, 18, 19, 20, 21, 22, 23, 24, 25, 26], [0, 1, 2, 3, 4, 5, 6, 7, 8, 9, 10, 11, 12, 13, 14, 15, 16, 17, 18, 19, 20, 21, 22, 23, 24, 25, 26, 27]]))] })
    (cfg := { n := 150, own := [3, 7, 9], lim := none, fns := [12, 15, 17, 22, 23, 24, 25, 26, 27, 28, 29, 30, 31, 32, 33], wr := [] }) (args := [.agg #[.string a, .string b], I d, I e]) (by kernel_rfl) (Bodies.cons Tryz.call12 (Bodies.cons Tryz.call15 (Bodies.cons Tryz.call17 (Bodies.cons Tryz.call22 (Bodies.cons Tryz.call23 (Bodies.cons Tryz.call24 (Bodies.cons Tryz.call25 (Bodies.cons Tryz.call26 (Bodies.cons Tryz.call27 (Bodies.cons Tryz.call28 (Bodies.cons Tryz.call29 (Bodies.cons Tryz.call30 (Bodies.cons Tryz.call31 (Bodies.cons Tryz.call32 (Bodies.cons Tryz.call33 Bodies.nil))))))))))))))) (Eq.mp (by kernel_rfl : LIntervalRounding Tryz.prog a b d e h K = _) hvc)
end Go.Proofs.YtekkjhmfjplljaaGreatDoor
