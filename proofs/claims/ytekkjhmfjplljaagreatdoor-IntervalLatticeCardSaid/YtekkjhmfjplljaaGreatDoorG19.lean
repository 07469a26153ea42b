/-
  Texts of this proof, merged by a program of ours: VcR.
-/
import Derived.Test.YtekkjhmfjplljaaGreatDoorProg
import Derived.Test.YtekkjhmfjplljaaGreatDoorG05
import Derived.Test.YtekkjhmfjplljaaGreatDoorG17
import Derived.Test.YtekkjhmfjplljaaGreatDoorG18
/-
  Written by wip/tools/vcgen.py: what is asked of each function's body; each equation is checked by the kernel.
-/
namespace Go.Proofs.YtekkjhmfjplljaaGreatDoor
open Go
set_option maxRecDepth 100000
set_option linter.unusedVariables false
variable {h : Heap} {K : Value -> Heap -> Prop}
abbrev f_TSplit : Nat := 127
abbrev f_TCutDigits : Nat := 173
abbrev f_TReadShort : Nat := 126
abbrev f_TReadTwo : Nat := 83
abbrev f_TDigitsValue : Nat := 171
abbrev f_TGcd : Nat := 141
abbrev f_TCompareInts : Nat := 88
abbrev f_TFormatShort : Nat := 84
abbrev f_TFraction : Nat := 165
abbrev f_TLowest : Nat := 134
abbrev f_TCancel : Nat := 156
abbrev f_TRead : Nat := 131
abbrev f_TValue : Nat := 78
abbrev f_TValid : Nat := 77
abbrev f_TFromInt : Nat := 139
abbrev f_TCompare : Nat := 29
abbrev f_TNeg : Nat := 101
abbrev f_TAdd : Nat := 30
abbrev f_TSub : Nat := 31
abbrev f_TMul : Nat := 44
abbrev f_TDiv : Nat := 27
abbrev f_TPow : Nat := 25
abbrev f_TFloor : Nat := 28
abbrev f_TCeil : Nat := 65
abbrev f_TSign : Nat := 113
abbrev f_RNum : Nat := 163
abbrev f_RDen : Nat := 135
abbrev f_RString : Nat := 82
abbrev f_RSign : Nat := 146
abbrev f_RIsZero : Nat := 79
abbrev f_RIsOne : Nat := 278
abbrev f_RCompare : Nat := 89
abbrev f_RNeg : Nat := 151
abbrev f_RAdd : Nat := 90
abbrev f_RSub : Nat := 91
abbrev f_RMul : Nat := 100
abbrev f_RInverse : Nat := 80
abbrev f_RDiv : Nat := 85
abbrev f_RPow : Nat := 81
abbrev f_RFloor : Nat := 86
abbrev f_RCeil : Nat := 116
abbrev ty_a48 : Nat := 176
def TSplit (P : Program) (p : ByteArray) (h : Heap) (K : Value -> Heap -> Prop) : Prop :=
  FCall P f_CCutPrefix #[.string p, .string ({ data := #[45] } : ByteArray)] h (fun q r => ∃ (j : ByteArray) (b : Bool), q = .tuple #[.string j, .bool b] /\ FCall P f_TCutDigits #[.string j] r (fun s f => ∃ (a d : ByteArray), s = .tuple #[.string a, .string d] /\ Br (ByteArray.toList a == ByteArray.toList ({ data := #[48] } : ByteArray)) (Br (!b) (K (.tuple #[.agg #[.bool b, .string a, .string ({ data := #[] } : ByteArray)], .bool (ByteArray.toList d == ByteArray.toList ({ data := #[] } : ByteArray))]) f)
  (K (.tuple #[.agg #[.bool b, .string a, .string ({ data := #[] } : ByteArray)], .bool false]) f))
  (∃ (i : List Value -> Heap -> Prop), (Br (ByteArray.toList a == ByteArray.toList ({ data := #[] } : ByteArray)) (i [.bool true] f)
  (∃ (k : UInt8), (0 <= (0 : Int) /\ (a)[((0 : Int)).toNat]? = some k) /\ i [.bool (((k.toNat : Nat) : Int) == (48 : Int))] f)) /\
  ∀ (l : Bool), ∀ e, i [.bool l] e -> Br l (K (.tuple #[.agg #[.bool b, .string a, .string ({ data := #[] } : ByteArray)], .bool false]) e)
  (Br (ByteArray.toList d == ByteArray.toList ({ data := #[] } : ByteArray)) (K (.tuple #[.agg #[.bool b, .string a, .string ({ data := #[] } : ByteArray)], .bool true]) e)
  (∃ (m : UInt8), (0 <= (0 : Int) /\ (d)[((0 : Int)).toNat]? = some m) /\ Br (((m.toNat : Nat) : Int) != (47 : Int)) (K (.tuple #[.agg #[.bool b, .string a, .string ({ data := #[] } : ByteArray)], .bool false]) e)
  ((0 <= (1 : Int) /\ (1 : Int) <= (((d).size : Nat) : Int)) /\ FCall P f_TCutDigits #[.string ((d).extract (((1 : Int)).toNat) ((d).size))] e (fun t g => ∃ (c n : ByteArray), t = .tuple #[.string c, .string n] /\ Br (ByteArray.toList n == ByteArray.toList ({ data := #[] } : ByteArray)) (Br (!(ByteArray.toList c == ByteArray.toList ({ data := #[] } : ByteArray))) (∃ (o : UInt8), (0 <= (0 : Int) /\ (c)[((0 : Int)).toNat]? = some o) /\ Br (((o.toNat : Nat) : Int) != (48 : Int)) (K (.tuple #[.agg #[.bool b, .string a, .string c], .bool (!(ByteArray.toList c == ByteArray.toList ({ data := #[49] } : ByteArray)))]) g)
  (K (.tuple #[.agg #[.bool b, .string a, .string c], .bool false]) g))
  (K (.tuple #[.agg #[.bool b, .string a, .string c], .bool false]) g))
  (K (.tuple #[.agg #[.bool b, .string a, .string c], .bool false]) g))))))))
theorem TSplit_ok (a : ByteArray) (hvc : TSplit Tryz.prog a h K) : FCall Tryz.prog f_TSplit #[.string a] h K :=
  fn_sound Tryz.func127 (c := codeOf Tryz.f127) (by kernel_rfl) (rs := [.cell 2 159, .tmp 3]) (by kernel_rfl) (fa := { loops := [], cuts := [(8, { slots := [31], owns := [], zs := [.bool false], lim := { slots := [31, 32, 33, 34, 35, 36, 37, 38, 39, 40], keys := [] } })], orders := [(14, ([0, 1, 2, 3, 4, 5, 6, 7, 8, 9, 10, 11, 12, 13, 14, 15, 16, 17, 18, 19, 20], [[], [], [1], [1, 2], [1, 2, 3], [1, 2, 3, 4], [1, 2, 3, 4, 5], [1, 2, 3, 4, 5, 6], [1, 2, 3, 4, 5, 6, 7], [1, 2, 3, 4, 5, 6, 7, 8], [1, 2, 3, 4, 5, 6, 7, 8, 9], [1, 2, 3, 4, 5, 6, 7, 8, 9, 10], [1, 2, 3, 4, 5, 6, 7, 8, 9, 10, 11], [1, 2, 3, 4, 5, 6, 7, 8, 9, 10, 11, 12], [1, 2, 3, 4, 5, 6, 7, 8, 9, 10, 11, 12, 13], [1, 2, 3, 4, 5, 6, 7, 8, 9, 10, 11, 12, 13, 14], [1, 2, 3, 4, 5, 6, 7, 8, 9, 10, 11, 12, 13, 14, 15], [1, 2, 3, 4, 5, 6, 7, 8, 9, 10, 11, 12, 13, 14, 15, 16], [1, 2, 3, 4, 5, 6, 7, 8, 9, 10, 11, 12, 13, 14, 15, 16, 17], [0, 1, 2, 3, 4, 5, 6, 7, 8, 9, 10, 11, 12, 13, 14], [0, 1, 2, 3, 4, 5, 6, 7, 8, 9, 10, 11, 12, 13, 14, 15, 16, 17, 18, 19]]))] })
    (cfg := { n := 77, own := [2, 4], lim := none, fns := [172, 173], wr := [] }) (args := [.string a]) (by kernel_rfl) (Bodies.cons Tryz.call172 (Bodies.cons Tryz.call173 Bodies.nil)) (Eq.mp (by kernel_rfl : TSplit Tryz.prog a h K = _) hvc)
def TCutDigits (P : Program) (b : ByteArray) (h : Heap) (K : Value -> Heap -> Prop) : Prop :=
  ∃ (e : List Value -> Heap -> Prop), (∃ (f : List Value -> Heap -> Prop) (g : List Value -> Heap -> Nat), f [I 0] h /\
  ∀ (a : Int), ∀ d, f [I a] d -> Br (decide (a < ((ByteArray.size b : Nat) : Int))) (∃ (i : UInt8), (0 <= a /\ (b)[(a).toNat]? = some i) /\ Br (decide ((48 : Int) <= ((i.toNat : Nat) : Int))) (∃ (j : UInt8), (0 <= a /\ (b)[(a).toNat]? = some j) /\ Br (decide (((j.toNat : Nat) : Int) <= (57 : Int))) (f [I (wi64 (a + 1))] d /\ g [I (wi64 (a + 1))] d < g [I a] d)
  (e [I a] d))
  (e [I a] d))
  (e [I a] d)) /\
  ∀ (c : Int), ∀ k, e [I c] k -> (0 <= c /\ c <= (((b).size : Nat) : Int)) /\ (0 <= c /\ c <= (((b).size : Nat) : Int)) /\ K (.tuple #[.string ((b).extract 0 ((c).toNat)), .string ((b).extract ((c).toNat) ((b).size))]) k
theorem TCutDigits_ok (a : ByteArray) (hvc : TCutDigits Tryz.prog a h K) : FCall Tryz.prog f_TCutDigits #[.string a] h K :=
  fn_sound Tryz.func173 (c := codeOf Tryz.f173) (by kernel_rfl) (rs := [.tmp 2, .tmp 3]) (by kernel_rfl) (fa := { loops := [(2, { slots := [4], owns := [], zs := [.int .i64 0], lim := { slots := [4, 5, 6, 7, 8, 9, 10, 11, 12, 13, 14, 15, 16, 17, 18, 19, 20, 21, 22], keys := [] } })], cuts := [(4, { slots := [4], owns := [], zs := [.int .i64 0], lim := { slots := [4, 5, 6, 7, 8, 9, 10, 11, 12, 13, 14, 15, 16, 17, 18, 19, 20, 21, 22], keys := [] } })], orders := [(4, ([0, 1, 2, 3, 4, 5, 6, 7], [[], [], [0, 1], [], [], [3, 4], [0, 1, 2], [0, 1, 2, 3, 4, 5, 6]]))] })
    (cfg := { n := 29, own := [], lim := none, fns := [], wr := [] }) (args := [.string a]) (by kernel_rfl) Bodies.nil (Eq.mp (by kernel_rfl : TCutDigits Tryz.prog a h K = _) hvc)
def TReadShort (P : Program) (n : ByteArray) (h : Heap) (K : Value -> Heap -> Prop) : Prop :=
  Br (decide (((ByteArray.size n : Nat) : Int) > (20 : Int))) (K (.tuple #[.agg #[I 0, I 0], .bool false]) h)
  (FCall P f_TSplit #[.string n] h (fun z k => ∃ (o : Bool) (d a : ByteArray) (p : Bool), z = .tuple #[.agg #[.bool o, .string d, .string a], .bool p] /\ ∃ (b : List Value -> Heap -> Prop), (Br (!p) (b [.bool true] k)
  (Br (decide (((ByteArray.size d : Nat) : Int) > (9 : Int))) (b [.bool true] k)
  (b [.bool (decide (((ByteArray.size a : Nat) : Int) > (9 : Int)))] k))) /\
  ∀ (q : Bool), ∀ l, b [.bool q] l -> Br q (K (.tuple #[.agg #[I 0, I 0], .bool false]) l)
  (FCall P f_TDigitsValue #[.string d] l (fun A u => ∃ (c : Int), A = I c /\ ∃ (e : List Value -> Heap -> Prop), (Br (!(ByteArray.toList a == ByteArray.toList ({ data := #[] } : ByteArray))) (FCall P f_TDigitsValue #[.string a] u (fun B C => ∃ (f : Int), B = I f /\ FCall P f_TGcd #[I c, I f] C (fun D v => ∃ (r : Int), D = I r /\ Br (r != (1 : Int)) (K (.tuple #[.agg #[I 0, I 0], .bool false]) v)
  (e [I 0, I 0, I c, I f] v))))
  (e [I 0, I 0, I c, I 1] u)) /\
  ∀ (x : Int) (y : Int) (g : Int) (i : Int), ∀ m, e [I x, I y, I g, I i] m -> ∃ (j : List Value -> Heap -> Prop), (Br o (j [I (wi64 (0 - g)), I i] m)
  (j [I g, I i] m)) /\
  ∀ (s : Int) (t : Int), ∀ w, j [I s, I t] w -> K (.tuple #[.agg #[I s, I t], .bool true]) w))))
theorem TReadShort_ok (a : ByteArray) (hvc : TReadShort Tryz.prog a h K) : FCall Tryz.prog f_TReadShort #[.string a] h K :=
  fn_sound Tryz.func126 (c := codeOf Tryz.f126) (by kernel_rfl) (rs := [.cell 2 104, .tmp 3]) (by kernel_rfl) (fa := { loops := [], cuts := [(5, { slots := [29], owns := [], zs := [.bool false], lim := { slots := [16, 17, 18, 19, 20, 21, 22, 23, 24, 25, 26, 27, 28, 29], keys := [] } }), (11, { slots := [], owns := [(2, 2), (6, 2)], zs := [.int .i64 0, .int .i64 0, .int .i64 0, .int .i64 0], lim := { slots := [3, 35, 36, 37, 38, 39, 40, 41, 42, 43, 44, 45, 46, 47, 48], keys := [2, 6] } }), (13, { slots := [], owns := [(6, 2)], zs := [.int .i64 0, .int .i64 0], lim := { slots := [49, 50, 51, 52, 53, 54], keys := [6] } })], orders := [] })
    (cfg := { n := 56, own := [2, 4, 6], lim := none, fns := [127, 141, 171], wr := [] }) (args := [.string a]) (by kernel_rfl) (Bodies.cons Tryz.call127 (Bodies.cons Tryz.call141 (Bodies.cons Tryz.call171 Bodies.nil))) (Eq.mp (by kernel_rfl : TReadShort Tryz.prog a h K = _) hvc)
def TReadTwo (P : Program) (j k : ByteArray) (h : Heap) (K : Value -> Heap -> Prop) : Prop :=
  FCall P f_TReadShort #[.string j] h (fun l g => ∃ (a : Int) (b : Int) (c : Bool), l = .tuple #[.agg #[I a, I b], .bool c] /\ Br (!c) (K (.tuple #[.agg #[I 0, I 0], .agg #[I 0, I 0], .bool false]) g)
  (FCall P f_TReadShort #[.string k] g (fun m i => ∃ (d : Int) (e : Int) (f : Bool), m = .tuple #[.agg #[I d, I e], .bool f] /\ Br (!f) (K (.tuple #[.agg #[I 0, I 0], .agg #[I 0, I 0], .bool false]) i)
  (K (.tuple #[.agg #[I a, I b], .agg #[I d, I e], .bool true]) i))))
theorem TReadTwo_ok (a b : ByteArray) (hvc : TReadTwo Tryz.prog a b h K) : FCall Tryz.prog f_TReadTwo #[.string a, .string b] h K :=
  fn_sound Tryz.func83 (c := codeOf Tryz.f83) (by kernel_rfl) (rs := [.cell 4 104, .cell 5 104, .tmp 6]) (by kernel_rfl) (fa := { loops := [], cuts := [], orders := [(7, ([0, 1, 2, 3, 4], [[], [], [0], [0, 1, 2], [0, 1, 2, 3]]))] })
    (cfg := { n := 30, own := [4, 5, 7, 9], lim := none, fns := [126], wr := [] }) (args := [.string a, .string b]) (by kernel_rfl) (Bodies.cons Tryz.call126 Bodies.nil) (Eq.mp (by kernel_rfl : TReadTwo Tryz.prog a b h K = _) hvc)
def TDigitsValue (P : Program) (f : ByteArray) (h : Heap) (K : Value -> Heap -> Prop) : Prop :=
  ∃ (d : List Value -> Heap -> Prop) (g : List Value -> Heap -> Nat), d [I 0, I 0] h /\
  ∀ (b : Int) (a : Int), ∀ c, d [I b, I a] c -> Br (decide (a < ((ByteArray.size f : Nat) : Int))) (∃ (e : UInt8), (0 <= a /\ (f)[(a).toNat]? = some e) /\ d [I (wi64 ((wi64 ((10 : Int) * b)) + (wi64 (wu8 (((e.toNat : Nat) : Int) - 48))))), I (wi64 (a + 1))] c /\ g [I (wi64 ((wi64 ((10 : Int) * b)) + (wi64 (wu8 (((e.toNat : Nat) : Int) - 48))))), I (wi64 (a + 1))] c < g [I b, I a] c)
  (K (I b) c)
theorem TDigitsValue_ok (a : ByteArray) (hvc : TDigitsValue Tryz.prog a h K) : FCall Tryz.prog f_TDigitsValue #[.string a] h K :=
  fn_sound Tryz.func171 (c := codeOf Tryz.f171) (by kernel_rfl) (rs := [.tmp 2]) (by kernel_rfl) (fa := { loops := [(3, { slots := [3, 7], owns := [], zs := [.int .i64 0, .int .i64 0], lim := { slots := [3, 4, 7, 8, 9, 10, 11, 12, 13, 14, 15, 16, 17, 18], keys := [] } })], cuts := [], orders := [] })
    (cfg := { n := 20, own := [], lim := none, fns := [], wr := [] }) (args := [.string a]) (by kernel_rfl) Bodies.nil (Eq.mp (by kernel_rfl : TDigitsValue Tryz.prog a h K = _) hvc)
def TGcd (P : Program) (f : Int) (g : Int) (h : Heap) (K : Value -> Heap -> Prop) : Prop :=
  ∃ (d : List Value -> Heap -> Prop) (e : List Value -> Heap -> Nat), d [I f, I g] h /\
  ∀ (b : Int) (a : Int), ∀ c, d [I b, I a] c -> Br (a != (0 : Int)) (Br (decide (a = 0)) False
  (d [I a, I (Int.tmod b a)] c /\ e [I a, I (Int.tmod b a)] c < e [I b, I a] c))
  (K (I b) c)
theorem TGcd_ok (a : Int) (b : Int) (hvc : TGcd Tryz.prog a b h K) : FCall Tryz.prog f_TGcd #[I a, I b] h K :=
  fn_sound Tryz.func141 (c := codeOf Tryz.f141) (by kernel_rfl) (rs := [.tmp 4]) (by kernel_rfl) (fa := { loops := [(1, { slots := [0, 1], owns := [], zs := [.int .i64 0, .int .i64 0], lim := { slots := [0, 1, 5, 6, 7, 8, 9, 10], keys := [] } })], cuts := [], orders := [(2, ([0, 1, 2, 3, 4, 5], [[], [], [], [1, 2], [0, 1], [0, 1, 2, 3, 4]]))] })
    (cfg := { n := 12, own := [], lim := none, fns := [], wr := [] }) (args := [I a, I b]) (by kernel_rfl) Bodies.nil (Eq.mp (by kernel_rfl : TGcd Tryz.prog a b h K = _) hvc)
def TCompareInts (P : Program) (b : Int) (c : Int) (h : Heap) (K : Value -> Heap -> Prop) : Prop :=
  FCall P f_CmpInt64 #[I b, I c] h (fun d e => ∃ (a : Int), d = I a /\ K (I a) e)
theorem TCompareInts_ok (a : Int) (b : Int) (hvc : TCompareInts Tryz.prog a b h K) : FCall Tryz.prog f_TCompareInts #[I a, I b] h K :=
  fn_sound Tryz.func88 (c := codeOf Tryz.f88) (by kernel_rfl) (rs := [.tmp 4]) (by kernel_rfl) (fa := { loops := [], cuts := [], orders := [] })
    (cfg := { n := 8, own := [], lim := none, fns := [145], wr := [] }) (args := [I a, I b]) (by kernel_rfl) (Bodies.cons Tryz.call145 Bodies.nil) (Eq.mp (by kernel_rfl : TCompareInts Tryz.prog a b h K = _) hvc)
def TFormatShort (P : Program) (l : Int) (d : Int) (h : Heap) (K : Value -> Heap -> Prop) : Prop :=
  ∃ (e : List Value -> Heap -> Prop), (Br (decide (d < (0 : Int))) (e [I (wi64 (0 - l)), I (wi64 (0 - d))] h)
  (e [I l, I d] h)) /\
  ∀ (a : Int) (b : Int), ∀ j, e [I a, I b] j -> ∃ (f : List Value -> Heap -> Prop), (Br (b != (1 : Int)) (FCall P f_TGcd #[I (if (wi64 (0 - a)) > a then wi64 (0 - a) else a), I b] j (fun B C => ∃ (c : Int), B = I c /\ Br (decide (c = 0)) False
  (Br (decide (c = 0)) False
  (f [I (wi64 (Int.tdiv a c)), I (wi64 (Int.tdiv b c))] C))))
  (f [I a, I b] j)) /\
  ∀ (g : Int) (i : Int), ∀ k, f [I g, I i] k -> Br (i == (1 : Int)) (FCall P f_CFormatInt #[I g, I 10] k (fun D E => ∃ (m : ByteArray), D = .string m /\ K (.string m) E))
  (wpH P (Instr.alloc 176 true (.tuple #[])) (fun F G => ∃ (n : Addr), F = .pointer (some n) /\ (0 <= (0 : Int) /\ (0 : Int) <= (48 : Int)) /\ FCall P f_CAppendInt #[.slice (cutA (some n) 48 0 1) ((((0 : Int)).toNat) - 0) (48 - 0), I g, I 10] G (fun H J => ∃ (o : OA) (p q : Nat), H = .slice o p q /\ wpH P (Instr.buildSlice 172 1 #[(0, Y (47 : Int))]) (fun L M => ∃ (r : OA) (s t : Nat), L = .slice r s t /\ wpH P (Builtin.append_ #[172, 172] 172 #[.slice o p q, .slice r s t]) (fun N O => ∃ (u : OA) (v w : Nat), N = .slice u v w /\ FCall P f_CAppendInt #[.slice u v w, I i, I 10] O (fun Q R => ∃ (x : OA) (y z : Nat), Q = .slice x y z /\ wpH P (convert 172 9 (.slice x y z)) (fun S T => ∃ (A : ByteArray), S = .string A /\ K (.string A) T) R)) M) J)) k)
theorem TFormatShort_ok (a : Int) (b : Int) (hvc : TFormatShort Tryz.prog a b h K) : FCall Tryz.prog f_TFormatShort #[I a, I b] h K :=
  fn_sound Tryz.func84 (c := codeOf Tryz.f84) (by kernel_rfl) (rs := [.tmp 4]) (by kernel_rfl) (fa := { loops := [], cuts := [(3, { slots := [0, 1], owns := [], zs := [.int .i64 0, .int .i64 0], lim := { slots := [0, 1, 8, 9, 10, 11, 12, 13], keys := [] } }), (6, { slots := [0, 1], owns := [], zs := [.int .i64 0, .int .i64 0], lim := { slots := [0, 1, 5, 14, 15, 16, 17, 18, 19, 20, 21, 22, 23, 24, 25, 26, 27], keys := [] } })], orders := [(5, ([0, 1, 2, 3, 4, 5, 6, 7], [[], [], [0, 1], [], [], [3, 4], [0, 1, 2], [0, 1, 2, 3, 4, 5, 6]]))] })
    (cfg := { n := 42, own := [], lim := none, fns := [141, 142, 143], wr := [143] }) (args := [I a, I b]) (by kernel_rfl) (Bodies.cons Tryz.call141 (Bodies.cons Tryz.call142 (Bodies.cons Tryz.call143 Bodies.nil))) (Eq.mp (by kernel_rfl : TFormatShort Tryz.prog a b h K = _) hvc)
def TLowest (P : Program) (a : Bool) (b : OA) (c d : Nat) (e : Bool) (f : OA) (g i : Nat) (h : Heap) (K : Value -> Heap -> Prop) : Prop :=
  FCall P f_ZIsOne #[.agg #[.bool e, .slice f g i]] h (fun l k => ∃ (j : Bool), l = .bool j /\ Br j (K (.agg #[.bool a, .slice b c d, .bool false, .slice none 0 0]) k)
  (K (.agg #[.bool a, .slice b c d, .bool e, .slice f g i]) k))
theorem TLowest_ok (a : Bool) (b : OA) (d e : Nat) (f : Bool) (g : OA) (i j : Nat) (hvc : TLowest Tryz.prog a b d e f g i j h K) : FCall Tryz.prog f_TLowest #[.agg #[.bool a, .slice b d e], .agg #[.bool f, .slice g i j]] h K :=
  fn_sound Tryz.func134 (c := codeOf Tryz.f134) (by kernel_rfl) (rs := [.cell 4 97]) (by kernel_rfl) (fa := { loops := [], cuts := [], orders := [] })
    (cfg := { n := 12, own := [2, 3, 4], lim := none, fns := [130], wr := [] }) (args := [.agg #[.bool a, .slice b d e], .agg #[.bool f, .slice g i j]]) (by kernel_rfl) (Bodies.cons Tryz.call130 Bodies.nil) (Eq.mp (by kernel_rfl : TLowest Tryz.prog a b d e f g i j h K = _) hvc)
def TCancel (P : Program) (e : Bool) (f : OA) (g i : Nat) (a : Bool) (b : OA) (c d : Nat) (h : Heap) (K : Value -> Heap -> Prop) : Prop :=
  FCall P f_ZIsOne #[.agg #[.bool a, .slice b c d]] h (fun A x => ∃ (o : Bool), A = .bool o /\ Br o (K (.tuple #[.agg #[.bool e, .slice f g i], .agg #[.bool a, .slice b c d]]) x)
  (FCall P f_ZGCD #[.agg #[.bool e, .slice f g i], .agg #[.bool a, .slice b c d]] x (fun B y => ∃ (j : Bool) (k : OA) (l m : Nat), B = .agg #[.bool j, .slice k l m] /\ FCall P f_ZQuo #[.agg #[.bool e, .slice f g i], .agg #[.bool j, .slice k l m]] y (fun C n => ∃ (p : Bool) (q : OA) (r s : Nat), C = .agg #[.bool p, .slice q r s] /\ Heap.le y n /\ FCall P f_ZQuo #[.agg #[.bool a, .slice b c d], .agg #[.bool j, .slice k l m]] n (fun D z => ∃ (t : Bool) (u : OA) (v w : Nat), D = .agg #[.bool t, .slice u v w] /\ Heap.le n z /\ K (.tuple #[.agg #[.bool p, .slice q r s], .agg #[.bool t, .slice u v w]]) z)))))
theorem TCancel_ok (a : Bool) (b : OA) (d e : Nat) (f : Bool) (g : OA) (i j : Nat) (hvc : TCancel Tryz.prog a b d e f g i j h K) : FCall Tryz.prog f_TCancel #[.agg #[.bool a, .slice b d e], .agg #[.bool f, .slice g i j]] h K :=
  fn_sound Tryz.func156 (c := codeOf Tryz.f156) (by kernel_rfl) (rs := [.cell 4 95, .cell 5 95]) (by kernel_rfl) (fa := { loops := [], cuts := [], orders := [(2, ([0, 1, 2, 3], [[], [], [0], [0, 1, 2]])), (4, ([0, 1, 3, 4, 2, 5, 6, 7], [[], [], [0, 1], [], [], [0, 1, 2, 3, 4], [0, 1, 2, 3, 4, 5], [0, 1, 2, 3, 4, 5, 6]]))] })
    (cfg := { n := 20, own := [2, 3, 4, 5, 6], lim := none, fns := [129, 130, 150], wr := [] }) (args := [.agg #[.bool a, .slice b d e], .agg #[.bool f, .slice g i j]]) (by kernel_rfl) (Bodies.cons Tryz.call129 (Bodies.cons Tryz.call130 (Bodies.cons Tryz.call150 Bodies.nil))) (Eq.mp (by kernel_rfl : TCancel Tryz.prog a b d e f g i j h K = _) hvc)
def TRead (P : Program) (L : ByteArray) (h : Heap) (K : Value -> Heap -> Prop) : Prop :=
  FCall P f_TSplit #[.string L] h (fun M G => ∃ (q : Bool) (r e : ByteArray) (s : Bool), M = .tuple #[.agg #[.bool q, .string r, .string e], .bool s] /\ Br (!s) (K (.tuple #[.agg #[.bool false, .slice none 0 0, .bool false, .slice none 0 0], .bool false]) G)
  (FCall P f_WParse #[.string r] G (fun N H => ∃ (f : Bool) (g : OA) (i j : Nat), N = .agg #[.bool f, .slice g i j] /\ ∃ (k : List Value -> Heap -> Prop), (Br q (FCall P f_ZNeg #[.agg #[.bool f, .slice g i j]] H (fun O Q => ∃ (t : Bool) (u : OA) (v w : Nat), O = .agg #[.bool t, .slice u v w] /\ k [.bool t, .slice u v w, .bool false, .slice none 0 0] Q))
  (k [.bool f, .slice g i j, .bool false, .slice none 0 0] H)) /\
  ∀ (a : Bool) (b : OA) (c d : Nat) (x : Bool) (y : OA) (z A : Nat), ∀ p, k [.bool a, .slice b c d, .bool x, .slice y z A] p -> Br (ByteArray.toList e == ByteArray.toList ({ data := #[] } : ByteArray)) (K (.tuple #[.agg #[.bool a, .slice b c d, .bool x, .slice y z A], .bool true]) p)
  (FCall P f_WParse #[.string e] p (fun R S => ∃ (l : Bool) (m : OA) (n o : Nat), R = .agg #[.bool l, .slice m n o] /\ FCall P f_ZGCD #[.agg #[.bool a, .slice b c d], .agg #[.bool l, .slice m n o]] S (fun T V => ∃ (B : Bool) (C : OA) (D E : Nat), T = .agg #[.bool B, .slice C D E] /\ FCall P f_ZIsOne #[.agg #[.bool B, .slice C D E]] V (fun W J => ∃ (F : Bool), W = .bool F /\ Br (!F) (K (.tuple #[.agg #[.bool false, .slice none 0 0, .bool false, .slice none 0 0], .bool false]) J)
  (K (.tuple #[.agg #[.bool a, .slice b c d, .bool l, .slice m n o], .bool true]) J))))))))
theorem TRead_ok (a : ByteArray) (hvc : TRead Tryz.prog a h K) : FCall Tryz.prog f_TRead #[.string a] h K :=
  fn_sound Tryz.func131 (c := codeOf Tryz.f131) (by kernel_rfl) (rs := [.cell 2 97, .tmp 3]) (by kernel_rfl) (fa := { loops := [], cuts := [(7, { slots := [], owns := [(6, 4)], zs := [.bool false, .slice none 0 0, .bool false, .slice none 0 0], lim := { slots := [19, 20, 21, 22, 23, 24], keys := [6] } })], orders := [] })
    (cfg := { n := 42, own := [2, 4, 6], lim := none, fns := [127, 128, 129, 130, 136], wr := [] }) (args := [.string a]) (by kernel_rfl) (Bodies.cons Tryz.call127 (Bodies.cons Tryz.call128 (Bodies.cons Tryz.call129 (Bodies.cons Tryz.call130 (Bodies.cons Tryz.call136 Bodies.nil))))) (Eq.mp (by kernel_rfl : TRead Tryz.prog a h K = _) hvc)
def TValue (P : Program) (j : ByteArray) (h : Heap) (K : Value -> Heap -> Prop) : Prop :=
  FCall P f_TRead #[.string j] h (fun l m => ∃ (a : Bool) (b : OA) (c d : Nat) (e : Bool) (f : OA) (g i : Nat) (k : Bool), l = .tuple #[.agg #[.bool a, .slice b c d, .bool e, .slice f g i], .bool k] /\ K (.agg #[.bool a, .slice b c d, .bool e, .slice f g i]) m)
theorem TValue_ok (a : ByteArray) (hvc : TValue Tryz.prog a h K) : FCall Tryz.prog f_TValue #[.string a] h K :=
  fn_sound Tryz.func78 (c := codeOf Tryz.f78) (by kernel_rfl) (rs := [.cell 2 97]) (by kernel_rfl) (fa := { loops := [], cuts := [], orders := [] })
    (cfg := { n := 11, own := [2, 3], lim := none, fns := [131], wr := [] }) (args := [.string a]) (by kernel_rfl) (Bodies.cons Tryz.call131 Bodies.nil) (Eq.mp (by kernel_rfl : TValue Tryz.prog a h K = _) hvc)
def TValid (P : Program) (g : ByteArray) (h : Heap) (K : Value -> Heap -> Prop) : Prop :=
  FCall P f_TReadShort #[.string g] h (fun C x => ∃ (z : Int) (A : Int) (i : Bool), C = .tuple #[.agg #[I z, I A], .bool i] /\ Br i (K (.bool true) x)
  (FCall P f_TSplit #[.string g] x (fun D b => ∃ (B : Bool) (j c : ByteArray) (a : Bool), D = .tuple #[.agg #[.bool B, .string j, .string c], .bool a] /\ Br (!a) (K (.bool a) b)
  (Br (ByteArray.toList c == ByteArray.toList ({ data := #[] } : ByteArray)) (K (.bool a) b)
  (FCall P f_WParse #[.string j] b (fun E d => ∃ (k : Bool) (l : OA) (m n : Nat), E = .agg #[.bool k, .slice l m n] /\ Heap.le b d /\ FCall P f_WParse #[.string c] d (fun F e => ∃ (o : Bool) (p : OA) (q r : Nat), F = .agg #[.bool o, .slice p q r] /\ Heap.le d e /\ FCall P f_ZGCD #[.agg #[.bool k, .slice l m n], .agg #[.bool o, .slice p q r]] e (fun G f => ∃ (s : Bool) (t : OA) (u v : Nat), G = .agg #[.bool s, .slice t u v] /\ Heap.le e f /\ FCall P f_ZIsOne #[.agg #[.bool s, .slice t u v]] f (fun H y => ∃ (w : Bool), H = .bool w /\ Heap.le f y /\ K (.bool w) y)))))))))
theorem TValid_ok (a : ByteArray) (hvc : TValid Tryz.prog a h K) : FCall Tryz.prog f_TValid #[.string a] h K :=
  fn_sound Tryz.func77 (c := codeOf Tryz.f77) (by kernel_rfl) (rs := [.tmp 2]) (by kernel_rfl) (fa := { loops := [], cuts := [], orders := [(7, ([0, 1, 3, 4, 2, 5, 6, 7, 8], [[], [0], [0, 1], [], [3], [0, 1, 2, 3, 4], [0, 1, 2, 3, 4, 5], [0, 1, 2, 3, 4, 5, 6], [0, 1, 2, 3, 4, 5, 6, 7]]))] })
    (cfg := { n := 34, own := [3, 5], lim := none, fns := [126, 127, 128, 129, 130], wr := [] }) (args := [.string a]) (by kernel_rfl) (Bodies.cons Tryz.call126 (Bodies.cons Tryz.call127 (Bodies.cons Tryz.call128 (Bodies.cons Tryz.call129 (Bodies.cons Tryz.call130 Bodies.nil))))) (Eq.mp (by kernel_rfl : TValid Tryz.prog a h K = _) hvc)
def TFromInt (P : Program) (b : Int) (h : Heap) (K : Value -> Heap -> Prop) : Prop :=
  FCall P f_CFormatInt #[I b, I 10] h (fun c d => ∃ (a : ByteArray), c = .string a /\ K (.string a) d)
theorem TFromInt_ok (a : Int) (hvc : TFromInt Tryz.prog a h K) : FCall Tryz.prog f_TFromInt #[I a] h K :=
  fn_sound Tryz.func139 (c := codeOf Tryz.f139) (by kernel_rfl) (rs := [.tmp 2]) (by kernel_rfl) (fa := { loops := [], cuts := [], orders := [] })
    (cfg := { n := 5, own := [], lim := none, fns := [142], wr := [] }) (args := [I a]) (by kernel_rfl) (Bodies.cons Tryz.call142 Bodies.nil) (Eq.mp (by kernel_rfl : TFromInt Tryz.prog a h K = _) hvc)
def TCompare (P : Program) (a b : ByteArray) (h : Heap) (K : Value -> Heap -> Prop) : Prop :=
  FCall P f_TReadTwo #[.string a, .string b] h (fun B A => ∃ (c : Int) (d : Int) (e : Int) (f : Int) (g : Bool), B = .tuple #[.agg #[I c, I d], .agg #[I e, I f], .bool g] /\ Br g (FCall P f_TCompareInts #[I (wi64 (c * f)), I (wi64 (e * d))] A (fun C D => ∃ (i : Int), C = I i /\ K (I i) D))
  (FCall P f_TValue #[.string a] A (fun E F => ∃ (j : Bool) (k : OA) (l m : Nat) (n : Bool) (o : OA) (p q : Nat), E = .agg #[.bool j, .slice k l m, .bool n, .slice o p q] /\ FCall P f_TValue #[.string b] F (fun G H => ∃ (r : Bool) (s : OA) (t u : Nat) (v : Bool) (w : OA) (x y : Nat), G = .agg #[.bool r, .slice s t u, .bool v, .slice w x y] /\ FCall P f_RCompare #[.agg #[.bool j, .slice k l m, .bool n, .slice o p q], .agg #[.bool r, .slice s t u, .bool v, .slice w x y]] H (fun J L => ∃ (z : Int), J = I z /\ K (I z) L)))))
theorem TCompare_ok (a b : ByteArray) (hvc : TCompare Tryz.prog a b h K) : FCall Tryz.prog f_TCompare #[.string a, .string b] h K :=
  fn_sound Tryz.func29 (c := codeOf Tryz.f29) (by kernel_rfl) (rs := [.tmp 4]) (by kernel_rfl) (fa := { loops := [], cuts := [], orders := [] })
    (cfg := { n := 32, own := [5, 6], lim := none, fns := [78, 83, 88, 89], wr := [] }) (args := [.string a, .string b]) (by kernel_rfl) (Bodies.cons Tryz.call78 (Bodies.cons Tryz.call83 (Bodies.cons Tryz.call88 (Bodies.cons Tryz.call89 Bodies.nil)))) (Eq.mp (by kernel_rfl : TCompare Tryz.prog a b h K = _) hvc)
def TMul (P : Program) (a b : ByteArray) (h : Heap) (K : Value -> Heap -> Prop) : Prop :=
  FCall P f_TReadTwo #[.string a, .string b] h (fun L J => ∃ (c : Int) (d : Int) (e : Int) (f : Int) (g : Bool), L = .tuple #[.agg #[I c, I d], .agg #[I e, I f], .bool g] /\ Br g (FCall P f_TFormatShort #[I (wi64 (c * e)), I (wi64 (d * f))] J (fun M N => ∃ (i : ByteArray), M = .string i /\ K (.string i) N))
  (FCall P f_TValue #[.string a] J (fun O Q => ∃ (j : Bool) (k : OA) (l m : Nat) (n : Bool) (o : OA) (p q : Nat), O = .agg #[.bool j, .slice k l m, .bool n, .slice o p q] /\ FCall P f_TValue #[.string b] Q (fun R S => ∃ (r : Bool) (s : OA) (t u : Nat) (v : Bool) (w : OA) (x y : Nat), R = .agg #[.bool r, .slice s t u, .bool v, .slice w x y] /\ FCall P f_RMul #[.agg #[.bool j, .slice k l m, .bool n, .slice o p q], .agg #[.bool r, .slice s t u, .bool v, .slice w x y]] S (fun T V => ∃ (z : Bool) (A : OA) (B C : Nat) (D : Bool) (E : OA) (F G : Nat), T = .agg #[.bool z, .slice A B C, .bool D, .slice E F G] /\ FCall P f_RString #[.agg #[.bool z, .slice A B C, .bool D, .slice E F G]] V (fun W X => ∃ (H : ByteArray), W = .string H /\ K (.string H) X))))))
theorem TMul_ok (a b : ByteArray) (hvc : TMul Tryz.prog a b h K) : FCall Tryz.prog f_TMul #[.string a, .string b] h K :=
  fn_sound Tryz.func44 (c := codeOf Tryz.f44) (by kernel_rfl) (rs := [.tmp 4]) (by kernel_rfl) (fa := { loops := [], cuts := [], orders := [] })
    (cfg := { n := 33, own := [5, 6], lim := none, fns := [78, 82, 83, 84, 100], wr := [] }) (args := [.string a, .string b]) (by kernel_rfl) (Bodies.cons Tryz.call78 (Bodies.cons Tryz.call82 (Bodies.cons Tryz.call83 (Bodies.cons Tryz.call84 (Bodies.cons Tryz.call100 Bodies.nil))))) (Eq.mp (by kernel_rfl : TMul Tryz.prog a b h K = _) hvc)
def TDiv (P : Program) (p q : ByteArray) (h : Heap) (K : Value -> Heap -> Prop) : Prop :=
  FCall P f_TReadTwo #[.string p, .string q] h (fun V S => ∃ (r : Int) (s : Int) (a : Int) (t : Int) (u : Bool), V = .tuple #[.agg #[I r, I s], .agg #[I a, I t], .bool u] /\ ∃ (b : List Value -> Heap -> Prop), (Br u (b [.bool (a != (0 : Int))] S)
  (b [.bool false] S)) /\
  ∀ (v : Bool), ∀ o, b [.bool v] o -> Br v (FCall P f_TFormatShort #[I (wi64 (r * t)), I (wi64 (s * a))] o (fun W X => ∃ (w : ByteArray), W = .string w /\ K (.tuple #[.string w, .bool true]) X))
  (FCall P f_TValue #[.string q] o (fun Z a0 => ∃ (c : Bool) (d : OA) (e f : Nat) (g : Bool) (i : OA) (j k : Nat), Z = .agg #[.bool c, .slice d e f, .bool g, .slice i j k] /\ FCall P f_RIsZero #[.agg #[.bool c, .slice d e f, .bool g, .slice i j k]] a0 (fun a1 l => ∃ (x : Bool), a1 = .bool x /\ Br x (K (.tuple #[.string ({ data := #[] } : ByteArray), .bool false]) l)
  (FCall P f_TValue #[.string p] l (fun a2 m => ∃ (y : Bool) (z : OA) (A B : Nat) (C : Bool) (D : OA) (E F : Nat), a2 = .agg #[.bool y, .slice z A B, .bool C, .slice D E F] /\ Heap.le l m /\ FCall P f_RDiv #[.agg #[.bool y, .slice z A B, .bool C, .slice D E F], .agg #[.bool c, .slice d e f, .bool g, .slice i j k]] m (fun a3 n => ∃ (G : Bool) (H : OA) (J L : Nat) (M : Bool) (N : OA) (O Q : Nat), a3 = .agg #[.bool G, .slice H J L, .bool M, .slice N O Q] /\ Heap.le m n /\ FCall P f_RString #[.agg #[.bool G, .slice H J L, .bool M, .slice N O Q]] n (fun a4 T => ∃ (R : ByteArray), a4 = .string R /\ Heap.le n T /\ K (.tuple #[.string R, .bool true]) T))))))))
theorem TDiv_ok (a b : ByteArray) (hvc : TDiv Tryz.prog a b h K) : FCall Tryz.prog f_TDiv #[.string a, .string b] h K :=
  fn_sound Tryz.func27 (c := codeOf Tryz.f27) (by kernel_rfl) (rs := [.tmp 4, .tmp 5]) (by kernel_rfl) (fa := { loops := [], cuts := [(3, { slots := [22], owns := [], zs := [.bool false], lim := { slots := [17, 18, 19, 20, 21, 22], keys := [] } })], orders := [(7, ([0, 2, 1, 3, 4, 5, 6], [[], [0], [], [0, 1, 2], [0, 1, 2, 3], [0, 1, 2, 3, 4], [0, 1, 2, 3, 4, 5]]))] })
    (cfg := { n := 43, own := [6, 7, 9], lim := none, fns := [78, 79, 82, 83, 84, 85], wr := [] }) (args := [.string a, .string b]) (by kernel_rfl) (Bodies.cons Tryz.call78 (Bodies.cons Tryz.call79 (Bodies.cons Tryz.call82 (Bodies.cons Tryz.call83 (Bodies.cons Tryz.call84 (Bodies.cons Tryz.call85 Bodies.nil)))))) (Eq.mp (by kernel_rfl : TDiv Tryz.prog a b h K = _) hvc)
def TPow (P : Program) (Q : ByteArray) (a : Int) (h : Heap) (K : Value -> Heap -> Prop) : Prop :=
  Br (decide (a < (-1000 : Int))) (K (.tuple #[.string ({ data := #[] } : ByteArray), .bool false]) h)
  (Br (decide (a > (1000 : Int))) (K (.tuple #[.string ({ data := #[] } : ByteArray), .bool false]) h)
  (FCall P f_TValue #[.string Q] h (fun R N => ∃ (b : Bool) (c : OA) (d e : Nat) (f : Bool) (g : OA) (i j : Nat), R = .agg #[.bool b, .slice c d e, .bool f, .slice g i j] /\ Br (decide (a < (0 : Int))) (FCall P f_RIsZero #[.agg #[.bool b, .slice c d e, .bool f, .slice g i j]] N (fun S O => ∃ (k : Bool), S = .bool k /\ Br k (K (.tuple #[.string ({ data := #[] } : ByteArray), .bool false]) O)
  (FCall P f_RInverse #[.agg #[.bool b, .slice c d e, .bool f, .slice g i j]] O (fun T V => ∃ (l : Bool) (m : OA) (n o : Nat) (p : Bool) (q : OA) (r s : Nat), T = .agg #[.bool l, .slice m n o, .bool p, .slice q r s] /\ FCall P f_RPow #[.agg #[.bool l, .slice m n o, .bool p, .slice q r s], U (wu64 (wi64 (0 - a)))] V (fun W X => ∃ (t : Bool) (u : OA) (v w : Nat) (x : Bool) (y : OA) (z A : Nat), W = .agg #[.bool t, .slice u v w, .bool x, .slice y z A] /\ FCall P f_RString #[.agg #[.bool t, .slice u v w, .bool x, .slice y z A]] X (fun Z a0 => ∃ (B : ByteArray), Z = .string B /\ K (.tuple #[.string B, .bool true]) a0))))))
  (FCall P f_RPow #[.agg #[.bool b, .slice c d e, .bool f, .slice g i j], U (wu64 a)] N (fun a1 a2 => ∃ (C : Bool) (D : OA) (E F : Nat) (G : Bool) (H : OA) (J L : Nat), a1 = .agg #[.bool C, .slice D E F, .bool G, .slice H J L] /\ FCall P f_RString #[.agg #[.bool C, .slice D E F, .bool G, .slice H J L]] a2 (fun a3 a4 => ∃ (M : ByteArray), a3 = .string M /\ K (.tuple #[.string M, .bool true]) a4))))))
theorem TPow_ok (b : ByteArray) (a : Int) (hvc : TPow Tryz.prog b a h K) : FCall Tryz.prog f_TPow #[.string b, I a] h K :=
  fn_sound Tryz.func25 (c := codeOf Tryz.f25) (by kernel_rfl) (rs := [.tmp 4, .tmp 5]) (by kernel_rfl) (fa := { loops := [], cuts := [], orders := [] })
    (cfg := { n := 28, own := [6], lim := none, fns := [78, 79, 80, 81, 82], wr := [] }) (args := [.string b, I a]) (by kernel_rfl) (Bodies.cons Tryz.call78 (Bodies.cons Tryz.call79 (Bodies.cons Tryz.call80 (Bodies.cons Tryz.call81 (Bodies.cons Tryz.call82 Bodies.nil))))) (Eq.mp (by kernel_rfl : TPow Tryz.prog b a h K = _) hvc)
def TFloor (P : Program) (o : ByteArray) (h : Heap) (K : Value -> Heap -> Prop) : Prop :=
  FCall P f_TValue #[.string o] h (fun p q => ∃ (a : Bool) (b : OA) (c d : Nat) (e : Bool) (f : OA) (g i : Nat), p = .agg #[.bool a, .slice b c d, .bool e, .slice f g i] /\ FCall P f_RFloor #[.agg #[.bool a, .slice b c d, .bool e, .slice f g i]] q (fun r s => ∃ (j : Bool) (k : OA) (l m : Nat), r = .agg #[.bool j, .slice k l m] /\ FCall P f_ZString #[.agg #[.bool j, .slice k l m]] s (fun t u => ∃ (n : ByteArray), t = .string n /\ K (.string n) u)))
theorem TFloor_ok (a : ByteArray) (hvc : TFloor Tryz.prog a h K) : FCall Tryz.prog f_TFloor #[.string a] h K :=
  fn_sound Tryz.func28 (c := codeOf Tryz.f28) (by kernel_rfl) (rs := [.tmp 2]) (by kernel_rfl) (fa := { loops := [], cuts := [], orders := [] })
    (cfg := { n := 7, own := [], lim := none, fns := [78, 86, 87], wr := [] }) (args := [.string a]) (by kernel_rfl) (Bodies.cons Tryz.call78 (Bodies.cons Tryz.call86 (Bodies.cons Tryz.call87 Bodies.nil))) (Eq.mp (by kernel_rfl : TFloor Tryz.prog a h K = _) hvc)
def TCeil (P : Program) (o : ByteArray) (h : Heap) (K : Value -> Heap -> Prop) : Prop :=
  FCall P f_TValue #[.string o] h (fun p q => ∃ (a : Bool) (b : OA) (c d : Nat) (e : Bool) (f : OA) (g i : Nat), p = .agg #[.bool a, .slice b c d, .bool e, .slice f g i] /\ FCall P f_RCeil #[.agg #[.bool a, .slice b c d, .bool e, .slice f g i]] q (fun r s => ∃ (j : Bool) (k : OA) (l m : Nat), r = .agg #[.bool j, .slice k l m] /\ FCall P f_ZString #[.agg #[.bool j, .slice k l m]] s (fun t u => ∃ (n : ByteArray), t = .string n /\ K (.string n) u)))
theorem TCeil_ok (a : ByteArray) (hvc : TCeil Tryz.prog a h K) : FCall Tryz.prog f_TCeil #[.string a] h K :=
  fn_sound Tryz.func65 (c := codeOf Tryz.f65) (by kernel_rfl) (rs := [.tmp 2]) (by kernel_rfl) (fa := { loops := [], cuts := [], orders := [] })
    (cfg := { n := 7, own := [], lim := none, fns := [78, 87, 116], wr := [] }) (args := [.string a]) (by kernel_rfl) (Bodies.cons Tryz.call78 (Bodies.cons Tryz.call87 (Bodies.cons Tryz.call116 Bodies.nil))) (Eq.mp (by kernel_rfl : TCeil Tryz.prog a h K = _) hvc)
def TSign (P : Program) (a : ByteArray) (h : Heap) (K : Value -> Heap -> Prop) : Prop :=
  Br (ByteArray.toList a == ByteArray.toList ({ data := #[48] } : ByteArray)) (K (I 0) h)
  (FCall P f_TValid #[.string a] h (fun e b => ∃ (c : Bool), e = .bool c /\ Br (!c) (K (I 0) b)
  (∃ (d : UInt8), (0 <= (0 : Int) /\ (a)[((0 : Int)).toNat]? = some d) /\ Br (((d.toNat : Nat) : Int) == (45 : Int)) (K (I (-1 : Int)) b)
  (K (I 1) b))))
theorem TSign_ok (a : ByteArray) (hvc : TSign Tryz.prog a h K) : FCall Tryz.prog f_TSign #[.string a] h K :=
  fn_sound Tryz.func113 (c := codeOf Tryz.f113) (by kernel_rfl) (rs := [.tmp 2]) (by kernel_rfl) (fa := { loops := [], cuts := [], orders := [] })
    (cfg := { n := 15, own := [], lim := none, fns := [77], wr := [] }) (args := [.string a]) (by kernel_rfl) (Bodies.cons Tryz.call77 Bodies.nil) (Eq.mp (by kernel_rfl : TSign Tryz.prog a h K = _) hvc)
def RDen (P : Program) (o : Bool) (p : OA) (q r : Nat) (a : Bool) (b : OA) (c d : Nat) (h : Heap) (K : Value -> Heap -> Prop) : Prop :=
  FCall P f_ZIsZero #[.agg #[.bool a, .slice b c d]] h (fun l k => ∃ (e : Bool), l = .bool e /\ Br e (FCall P f_WNew #[I 1] k (fun m n => ∃ (f : Bool) (g : OA) (i j : Nat), m = .agg #[.bool f, .slice g i j] /\ K (.agg #[.bool f, .slice g i j]) n))
  (K (.agg #[.bool a, .slice b c d]) k))
theorem RDen_ok (a : Bool) (b : OA) (d e : Nat) (f : Bool) (g : OA) (i j : Nat) (hvc : RDen Tryz.prog a b d e f g i j h K) : FCall Tryz.prog f_RDen #[.agg #[.bool a, .slice b d e, .bool f, .slice g i j]] h K :=
  fn_sound Tryz.func135 (c := codeOf Tryz.f135) (by kernel_rfl) (rs := [.cell 2 95]) (by kernel_rfl) (fa := { loops := [], cuts := [], orders := [] })
    (cfg := { n := 9, own := [1, 2], lim := none, fns := [132, 176], wr := [] }) (args := [.agg #[.bool a, .slice b d e, .bool f, .slice g i j]]) (by kernel_rfl) (Bodies.cons Tryz.call132 (Bodies.cons Tryz.call176 Bodies.nil)) (Eq.mp (by kernel_rfl : RDen Tryz.prog a b d e f g i j h K = _) hvc)
def RString (P : Program) (a : Bool) (b : OA) (c d : Nat) (e : Bool) (f : OA) (g i : Nat) (h : Heap) (K : Value -> Heap -> Prop) : Prop :=
  FCall P f_ZIsZero #[.agg #[.bool e, .slice f g i]] h (fun D B => ∃ (j : Bool), D = .bool j /\ Br j (FCall P f_ZInt64 #[.agg #[.bool a, .slice b c d]] B (fun E C => ∃ (k : Int) (l : Bool), E = .tuple #[I k, .bool l] /\ Br l (FCall P f_TFromInt #[I k] C (fun F G => ∃ (m : ByteArray), F = .string m /\ K (.string m) G))
  (FCall P f_ZString #[.agg #[.bool a, .slice b c d]] C (fun H J => ∃ (n : ByteArray), H = .string n /\ K (.string n) J))))
  (FCall P f_ZAppend #[.agg #[.bool a, .slice b c d], .slice none 0 0] B (fun L M => ∃ (o : OA) (p q : Nat), L = .slice o p q /\ wpH P (Instr.buildSlice 172 1 #[(0, Y (47 : Int))]) (fun N O => ∃ (r : OA) (s t : Nat), N = .slice r s t /\ wpH P (Builtin.append_ #[172, 172] 172 #[.slice o p q, .slice r s t]) (fun Q R => ∃ (u : OA) (v w : Nat), Q = .slice u v w /\ FCall P f_ZAppend #[.agg #[.bool e, .slice f g i], .slice u v w] R (fun S T => ∃ (x : OA) (y z : Nat), S = .slice x y z /\ wpH P (convert 172 9 (.slice x y z)) (fun V W => ∃ (A : ByteArray), V = .string A /\ K (.string A) W) T)) O) M)))
theorem RString_ok (a : Bool) (b : OA) (d e : Nat) (f : Bool) (g : OA) (i j : Nat) (hvc : RString Tryz.prog a b d e f g i j h K) : FCall Tryz.prog f_RString #[.agg #[.bool a, .slice b d e, .bool f, .slice g i j]] h K :=
  fn_sound Tryz.func82 (c := codeOf Tryz.f82) (by kernel_rfl) (rs := [.tmp 2]) (by kernel_rfl) (fa := { loops := [], cuts := [], orders := [] })
    (cfg := { n := 31, own := [1], lim := none, fns := [87, 132, 138, 139, 140], wr := [] }) (args := [.agg #[.bool a, .slice b d e, .bool f, .slice g i j]]) (by kernel_rfl) (Bodies.cons Tryz.call87 (Bodies.cons Tryz.call132 (Bodies.cons Tryz.call138 (Bodies.cons Tryz.call139 (Bodies.cons Tryz.call140 Bodies.nil))))) (Eq.mp (by kernel_rfl : RString Tryz.prog a b d e f g i j h K = _) hvc)
def RSign (P : Program) (b : Bool) (c : OA) (d e : Nat) (i : Bool) (j : OA) (k l : Nat) (h : Heap) (K : Value -> Heap -> Prop) : Prop :=
  FCall P f_ZSign #[.agg #[.bool b, .slice c d e]] h (fun f g => ∃ (a : Int), f = I a /\ K (I a) g)
theorem RSign_ok (a : Bool) (b : OA) (d e : Nat) (f : Bool) (g : OA) (i j : Nat) (hvc : RSign Tryz.prog a b d e f g i j h K) : FCall Tryz.prog f_RSign #[.agg #[.bool a, .slice b d e, .bool f, .slice g i j]] h K :=
  fn_sound Tryz.func146 (c := codeOf Tryz.f146) (by kernel_rfl) (rs := [.tmp 2]) (by kernel_rfl) (fa := { loops := [], cuts := [], orders := [] })
    (cfg := { n := 6, own := [1], lim := none, fns := [133], wr := [] }) (args := [.agg #[.bool a, .slice b d e, .bool f, .slice g i j]]) (by kernel_rfl) (Bodies.cons Tryz.call133 Bodies.nil) (Eq.mp (by kernel_rfl : RSign Tryz.prog a b d e f g i j h K = _) hvc)
def RIsZero (P : Program) (b : Bool) (c : OA) (d e : Nat) (i : Bool) (j : OA) (k l : Nat) (h : Heap) (K : Value -> Heap -> Prop) : Prop :=
  FCall P f_ZIsZero #[.agg #[.bool b, .slice c d e]] h (fun f g => ∃ (a : Bool), f = .bool a /\ K (.bool a) g)
theorem RIsZero_ok (a : Bool) (b : OA) (d e : Nat) (f : Bool) (g : OA) (i j : Nat) (hvc : RIsZero Tryz.prog a b d e f g i j h K) : FCall Tryz.prog f_RIsZero #[.agg #[.bool a, .slice b d e, .bool f, .slice g i j]] h K :=
  fn_sound Tryz.func79 (c := codeOf Tryz.f79) (by kernel_rfl) (rs := [.tmp 2]) (by kernel_rfl) (fa := { loops := [], cuts := [], orders := [] })
    (cfg := { n := 6, own := [1], lim := none, fns := [132], wr := [] }) (args := [.agg #[.bool a, .slice b d e, .bool f, .slice g i j]]) (by kernel_rfl) (Bodies.cons Tryz.call132 Bodies.nil) (Eq.mp (by kernel_rfl : RIsZero Tryz.prog a b d e f g i j h K = _) hvc)
def RCompare (P : Program) (a : Bool) (b : OA) (c d : Nat) (k : Bool) (l : OA) (m n : Nat) (e : Bool) (f : OA) (g i : Nat) (o : Bool) (p : OA) (q r : Nat) (h : Heap) (K : Value -> Heap -> Prop) : Prop :=
  ∃ (s : List Value -> Heap -> Prop), (FCall P f_ZIsZero #[.agg #[.bool k, .slice l m n]] h (fun a8 j => ∃ (B : Bool), a8 = .bool B /\ Heap.le h j /\ Br B (FCall P f_ZIsZero #[.agg #[.bool o, .slice p q r]] j (fun a9 t => ∃ (C : Bool), a9 = .bool C /\ Heap.le j t /\ Br C (s [.bool true] t)
  (FCall P f_RSign #[.agg #[.bool a, .slice b c d, .bool k, .slice l m n]] t (fun b0 v => ∃ (D : Int), b0 = I D /\ Heap.le t v /\ FCall P f_RSign #[.agg #[.bool e, .slice f g i, .bool o, .slice p q r]] v (fun b1 a5 => ∃ (E : Int), b1 = I E /\ Heap.le v a5 /\ s [.bool (D != E)] a5)))))
  (FCall P f_RSign #[.agg #[.bool a, .slice b c d, .bool k, .slice l m n]] j (fun b2 w => ∃ (F : Int), b2 = I F /\ Heap.le j w /\ FCall P f_RSign #[.agg #[.bool e, .slice f g i, .bool o, .slice p q r]] w (fun b3 a6 => ∃ (G : Int), b3 = I G /\ Heap.le w a6 /\ s [.bool (F != G)] a6))))) /\
  ∀ (H : Bool), ∀ u, s [.bool H] u -> Br H (FCall P f_ZCompare #[.agg #[.bool a, .slice b c d], .agg #[.bool e, .slice f g i]] u (fun b4 b5 => ∃ (J : Int), b4 = I J /\ K (I J) b5))
  (FCall P f_RDen #[.agg #[.bool e, .slice f g i, .bool o, .slice p q r]] u (fun b6 x => ∃ (L : Bool) (M : OA) (N O : Nat), b6 = .agg #[.bool L, .slice M N O] /\ Heap.le u x /\ FCall P f_ZMul #[.agg #[.bool a, .slice b c d], .agg #[.bool L, .slice M N O]] x (fun b7 y => ∃ (Q : Bool) (R : OA) (S T : Nat), b7 = .agg #[.bool Q, .slice R S T] /\ Heap.le x y /\ FCall P f_RDen #[.agg #[.bool a, .slice b c d, .bool k, .slice l m n]] y (fun b8 z => ∃ (V : Bool) (W : OA) (X Z : Nat), b8 = .agg #[.bool V, .slice W X Z] /\ Heap.le y z /\ FCall P f_ZMul #[.agg #[.bool e, .slice f g i], .agg #[.bool V, .slice W X Z]] z (fun b9 A => ∃ (a0 : Bool) (a1 : OA) (a2 a3 : Nat), b9 = .agg #[.bool a0, .slice a1 a2 a3] /\ Heap.le z A /\ FCall P f_ZCompare #[.agg #[.bool Q, .slice R S T], .agg #[.bool a0, .slice a1 a2 a3]] A (fun c0 a7 => ∃ (a4 : Int), c0 = I a4 /\ Heap.le A a7 /\ K (I a4) a7))))))
theorem RCompare_ok (a : Bool) (b : OA) (d e : Nat) (f : Bool) (g : OA) (i j : Nat) (k : Bool) (l : OA) (m o : Nat) (p : Bool) (q : OA) (r s : Nat) (hvc : RCompare Tryz.prog a b d e f g i j k l m o p q r s h K) : FCall Tryz.prog f_RCompare #[.agg #[.bool a, .slice b d e, .bool f, .slice g i j], .agg #[.bool k, .slice l m o, .bool p, .slice q r s]] h K :=
  fn_sound Tryz.func89 (c := codeOf Tryz.f89) (by kernel_rfl) (rs := [.tmp 4]) (by kernel_rfl) (fa := { loops := [], cuts := [(2, { slots := [19], owns := [], zs := [.bool false], lim := { slots := [5, 6, 7, 8, 9, 10, 11, 12, 13, 14, 15, 16, 17, 18, 19], keys := [] } })], orders := [(1, ([0, 1, 2, 3, 4, 5, 6, 7, 8, 9, 11, 10, 12, 13, 14], [[], [0], [0, 1], [0, 1, 2], [0, 1, 2, 3], [0, 1, 2, 3, 4], [0, 1, 2, 3, 4, 5], [0, 1, 2, 3, 4, 5, 6], [0, 1, 2, 3, 4, 5, 6, 7], [0, 1, 2, 3, 4, 5, 6, 7, 8], [0, 1, 2, 3, 4, 5, 6, 7, 8, 9], [0, 1, 2, 3, 4, 5, 6, 7, 8], [0, 1, 2, 3, 4, 5, 6, 7, 8, 9, 10, 11], [0, 1, 2, 3, 4, 5, 6, 7, 8, 9, 10, 11, 12], [0, 1, 2, 3, 4, 5, 6, 7, 8, 9, 10, 11, 12, 13]])), (3, ([0, 1, 2, 5, 6, 7, 3, 4, 8, 9, 10, 11], [[], [0], [], [2], [0, 1, 2, 3], [], [5], [], [0, 1, 2, 3, 4, 7], [0, 1, 2, 3, 4, 5, 6, 7, 8], [0, 1, 2, 3, 4, 5, 6, 7, 8, 9], [0, 1, 2, 3, 4, 5, 6, 7, 8, 9, 10]]))] })
    (cfg := { n := 36, own := [2, 3], lim := none, fns := [132, 135, 146, 147, 148], wr := [] }) (args := [.agg #[.bool a, .slice b d e, .bool f, .slice g i j], .agg #[.bool k, .slice l m o, .bool p, .slice q r s]]) (by kernel_rfl) (Bodies.cons Tryz.call132 (Bodies.cons Tryz.call135 (Bodies.cons Tryz.call146 (Bodies.cons Tryz.call147 (Bodies.cons Tryz.call148 Bodies.nil))))) (Eq.mp (by kernel_rfl : RCompare Tryz.prog a b d e f g i j k l m o p q r s h K = _) hvc)
def RNeg (P : Program) (f : Bool) (g : OA) (i j : Nat) (k : Bool) (l : OA) (m n : Nat) (h : Heap) (K : Value -> Heap -> Prop) : Prop :=
  FCall P f_ZNeg #[.agg #[.bool f, .slice g i j]] h (fun o e => ∃ (a : Bool) (b : OA) (c d : Nat), o = .agg #[.bool a, .slice b c d] /\ Heap.le h e /\ K (.agg #[.bool a, .slice b c d, .bool k, .slice l m n]) e)
theorem RNeg_ok (a : Bool) (b : OA) (d e : Nat) (f : Bool) (g : OA) (i j : Nat) (hvc : RNeg Tryz.prog a b d e f g i j h K) : FCall Tryz.prog f_RNeg #[.agg #[.bool a, .slice b d e, .bool f, .slice g i j]] h K :=
  fn_sound Tryz.func151 (c := codeOf Tryz.f151) (by kernel_rfl) (rs := [.cell 2 97]) (by kernel_rfl) (fa := { loops := [], cuts := [], orders := [(1, ([0, 1, 3, 4, 2, 5, 6], [[], [0], [0, 1], [], [3], [0, 1, 2, 3, 4], [0, 1, 2, 3, 4, 5]]))] })
    (cfg := { n := 9, own := [1, 2], lim := none, fns := [136], wr := [] }) (args := [.agg #[.bool a, .slice b d e, .bool f, .slice g i j]]) (by kernel_rfl) (Bodies.cons Tryz.call136 Bodies.nil) (Eq.mp (by kernel_rfl : RNeg Tryz.prog a b d e f g i j h K = _) hvc)
def RMul (P : Program) (a : Bool) (b : OA) (c d : Nat) (t : Bool) (u : OA) (v w : Nat) (e : Bool) (f : OA) (g i : Nat) (x : Bool) (y : OA) (z A : Nat) (h : Heap) (K : Value -> Heap -> Prop) : Prop :=
  ∃ (k : List Value -> Heap -> Prop), (FCall P f_ZIsZero #[.agg #[.bool a, .slice b c d]] h (fun d3 d0 => ∃ (B : Bool), d3 = .bool B /\ Br B (k [.bool true] d0)
  (FCall P f_ZIsZero #[.agg #[.bool e, .slice f g i]] d0 (fun d4 d5 => ∃ (C : Bool), d4 = .bool C /\ k [.bool C] d5)))) /\
  ∀ (D : Bool), ∀ s, k [.bool D] s -> Br D (K (.agg #[.bool false, .slice none 0 0, .bool false, .slice none 0 0]) s)
  (∃ (l : List Value -> Heap -> Prop), (FCall P f_ZIsZero #[.agg #[.bool t, .slice u v w]] s (fun d6 d1 => ∃ (E : Bool), d6 = .bool E /\ Br E (FCall P f_ZIsZero #[.agg #[.bool x, .slice y z A]] d1 (fun d7 d8 => ∃ (F : Bool), d7 = .bool F /\ l [.bool F] d8))
  (l [.bool false] d1))) /\
  ∀ (G : Bool), ∀ j, l [.bool G] j -> Br G (FCall P f_ZMul #[.agg #[.bool a, .slice b c d], .agg #[.bool e, .slice f g i]] j (fun d9 e0 => ∃ (H : Bool) (J : OA) (L M : Nat), d9 = .agg #[.bool H, .slice J L M] /\ K (.agg #[.bool H, .slice J L M, .bool false, .slice none 0 0]) e0))
  (FCall P f_RDen #[.agg #[.bool e, .slice f g i, .bool x, .slice y z A]] j (fun e1 m => ∃ (N : Bool) (O : OA) (Q R : Nat), e1 = .agg #[.bool N, .slice O Q R] /\ Heap.le j m /\ FCall P f_TCancel #[.agg #[.bool a, .slice b c d], .agg #[.bool N, .slice O Q R]] m (fun e2 n => ∃ (S : Bool) (T : OA) (V W : Nat) (X : Bool) (Z : OA) (a0 a1 : Nat), e2 = .tuple #[.agg #[.bool S, .slice T V W], .agg #[.bool X, .slice Z a0 a1]] /\ Heap.le m n /\ FCall P f_RDen #[.agg #[.bool a, .slice b c d, .bool t, .slice u v w]] n (fun e3 o => ∃ (a2 : Bool) (a3 : OA) (a4 a5 : Nat), e3 = .agg #[.bool a2, .slice a3 a4 a5] /\ Heap.le n o /\ FCall P f_TCancel #[.agg #[.bool e, .slice f g i], .agg #[.bool a2, .slice a3 a4 a5]] o (fun e4 p => ∃ (a6 : Bool) (a7 : OA) (a8 a9 : Nat) (b0 : Bool) (b1 : OA) (b2 b3 : Nat), e4 = .tuple #[.agg #[.bool a6, .slice a7 a8 a9], .agg #[.bool b0, .slice b1 b2 b3]] /\ Heap.le o p /\ FCall P f_ZMul #[.agg #[.bool S, .slice T V W], .agg #[.bool a6, .slice a7 a8 a9]] p (fun e5 q => ∃ (b4 : Bool) (b5 : OA) (b6 b7 : Nat), e5 = .agg #[.bool b4, .slice b5 b6 b7] /\ Heap.le p q /\ FCall P f_ZMul #[.agg #[.bool b0, .slice b1 b2 b3], .agg #[.bool X, .slice Z a0 a1]] q (fun e6 r => ∃ (b8 : Bool) (b9 : OA) (c0 c1 : Nat), e6 = .agg #[.bool b8, .slice b9 c0 c1] /\ Heap.le q r /\ FCall P f_TLowest #[.agg #[.bool b4, .slice b5 b6 b7], .agg #[.bool b8, .slice b9 c0 c1]] r (fun e7 d2 => ∃ (c2 : Bool) (c3 : OA) (c4 c5 : Nat) (c6 : Bool) (c7 : OA) (c8 c9 : Nat), e7 = .agg #[.bool c2, .slice c3 c4 c5, .bool c6, .slice c7 c8 c9] /\ Heap.le r d2 /\ K (.agg #[.bool c2, .slice c3 c4 c5, .bool c6, .slice c7 c8 c9]) d2)))))))))
theorem RMul_ok (a : Bool) (b : OA) (d e : Nat) (f : Bool) (g : OA) (i j : Nat) (k : Bool) (l : OA) (m o : Nat) (p : Bool) (q : OA) (r s : Nat) (hvc : RMul Tryz.prog a b d e f g i j k l m o p q r s h K) : FCall Tryz.prog f_RMul #[.agg #[.bool a, .slice b d e, .bool f, .slice g i j], .agg #[.bool k, .slice l m o, .bool p, .slice q r s]] h K :=
  fn_sound Tryz.func100 (c := codeOf Tryz.f100) (by kernel_rfl) (rs := [.cell 4 97]) (by kernel_rfl) (fa := { loops := [], cuts := [(2, { slots := [16], owns := [], zs := [.bool false], lim := { slots := [9, 10, 11, 12, 13, 14, 15, 16], keys := [] } }), (4, { slots := [25], owns := [], zs := [.bool false], lim := { slots := [18, 19, 20, 21, 22, 23, 24, 25], keys := [] } })], orders := [(5, ([0, 1, 2, 8, 9, 3, 4, 5, 6, 7, 10, 11], [[], [0], [], [2], [0, 1, 2, 3], [0, 1, 2, 3, 4], [0, 1, 2, 3, 4, 5], [0, 1, 2, 3, 4, 5], [], [], [0, 1, 2, 3, 4, 5, 6, 8, 9], [0, 1, 2, 3, 4, 5, 6, 7, 8, 9, 10]])), (6, ([0, 1, 2, 8, 9, 3, 4, 5, 6, 7, 10, 11], [[], [0], [], [2], [0, 1, 2, 3], [0, 1, 2, 3, 4], [0, 1, 2, 3, 4, 5], [0, 1, 2, 3, 4, 5], [], [], [0, 1, 2, 3, 4, 5, 6, 8, 9], [0, 1, 2, 3, 4, 5, 6, 7, 8, 9, 10]])), (7, ([0, 1, 3, 4, 2, 5, 6, 7], [[], [], [0, 1], [], [], [0, 1, 2, 3, 4], [0, 1, 2, 3, 4, 5], [0, 1, 2, 3, 4, 5, 6]]))] })
    (cfg := { n := 55, own := [2, 3, 4, 5, 6, 7, 8], lim := none, fns := [132, 134, 135, 148, 156], wr := [] }) (args := [.agg #[.bool a, .slice b d e, .bool f, .slice g i j], .agg #[.bool k, .slice l m o, .bool p, .slice q r s]]) (by kernel_rfl) (Bodies.cons Tryz.call132 (Bodies.cons Tryz.call134 (Bodies.cons Tryz.call135 (Bodies.cons Tryz.call148 (Bodies.cons Tryz.call156 Bodies.nil))))) (Eq.mp (by kernel_rfl : RMul Tryz.prog a b d e f g i j k l m o p q r s h K = _) hvc)
def RInverse (P : Program) (a : Bool) (b : OA) (c d : Nat) (l : Bool) (m : OA) (n o : Nat) (h : Heap) (K : Value -> Heap -> Prop) : Prop :=
  FCall P f_ZSign #[.agg #[.bool a, .slice b c d]] h (fun a2 e => ∃ (f : Int), a2 = I f /\ Br (f == (0 : Int)) (K (.agg #[.bool false, .slice none 0 0, .bool false, .slice none 0 0]) e)
  (Br (f == (-1 : Int)) (FCall P f_RDen #[.agg #[.bool a, .slice b c d, .bool l, .slice m n o]] e (fun a3 g => ∃ (p : Bool) (q : OA) (r s : Nat), a3 = .agg #[.bool p, .slice q r s] /\ Heap.le e g /\ FCall P f_ZNeg #[.agg #[.bool p, .slice q r s]] g (fun a4 i => ∃ (t : Bool) (u : OA) (v w : Nat), a4 = .agg #[.bool t, .slice u v w] /\ Heap.le g i /\ FCall P f_ZNeg #[.agg #[.bool a, .slice b c d]] i (fun a5 j => ∃ (x : Bool) (y : OA) (z A : Nat), a5 = .agg #[.bool x, .slice y z A] /\ Heap.le i j /\ FCall P f_TLowest #[.agg #[.bool t, .slice u v w], .agg #[.bool x, .slice y z A]] j (fun a6 a0 => ∃ (B : Bool) (C : OA) (D E : Nat) (F : Bool) (G : OA) (H J : Nat), a6 = .agg #[.bool B, .slice C D E, .bool F, .slice G H J] /\ Heap.le j a0 /\ K (.agg #[.bool B, .slice C D E, .bool F, .slice G H J]) a0)))))
  (FCall P f_RDen #[.agg #[.bool a, .slice b c d, .bool l, .slice m n o]] e (fun a7 k => ∃ (L : Bool) (M : OA) (N O : Nat), a7 = .agg #[.bool L, .slice M N O] /\ Heap.le e k /\ FCall P f_TLowest #[.agg #[.bool L, .slice M N O], .agg #[.bool a, .slice b c d]] k (fun a8 a1 => ∃ (Q : Bool) (R : OA) (S T : Nat) (V : Bool) (W : OA) (X Z : Nat), a8 = .agg #[.bool Q, .slice R S T, .bool V, .slice W X Z] /\ Heap.le k a1 /\ K (.agg #[.bool Q, .slice R S T, .bool V, .slice W X Z]) a1)))))
theorem RInverse_ok (a : Bool) (b : OA) (d e : Nat) (f : Bool) (g : OA) (i j : Nat) (hvc : RInverse Tryz.prog a b d e f g i j h K) : FCall Tryz.prog f_RInverse #[.agg #[.bool a, .slice b d e, .bool f, .slice g i j]] h K :=
  fn_sound Tryz.func80 (c := codeOf Tryz.f80) (by kernel_rfl) (rs := [.cell 2 97]) (by kernel_rfl) (fa := { loops := [], cuts := [], orders := [(5, ([0, 3, 4, 1, 2, 5, 6, 7], [[], [0], [0, 1], [], [3], [0, 1, 2, 3, 4], [0, 1, 2, 3, 4, 5], [0, 1, 2, 3, 4, 5, 6]])), (6, ([0, 2, 3, 1, 4, 5], [[], [0], [], [2], [0, 1, 2, 3], [0, 1, 2, 3, 4]]))] })
    (cfg := { n := 23, own := [1, 2], lim := none, fns := [133, 134, 135, 136], wr := [] }) (args := [.agg #[.bool a, .slice b d e, .bool f, .slice g i j]]) (by kernel_rfl) (Bodies.cons Tryz.call133 (Bodies.cons Tryz.call134 (Bodies.cons Tryz.call135 (Bodies.cons Tryz.call136 Bodies.nil)))) (Eq.mp (by kernel_rfl : RInverse Tryz.prog a b d e f g i j h K = _) hvc)
def RDiv (P : Program) (t : Bool) (u : OA) (v w : Nat) (x : Bool) (y : OA) (z A : Nat) (B : Bool) (C : OA) (D E : Nat) (F : Bool) (G : OA) (H J : Nat) (h : Heap) (K : Value -> Heap -> Prop) : Prop :=
  FCall P f_RInverse #[.agg #[.bool B, .slice C D E, .bool F, .slice G H J]] h (fun L a => ∃ (b : Bool) (c : OA) (d e : Nat) (f : Bool) (g : OA) (i j : Nat), L = .agg #[.bool b, .slice c d e, .bool f, .slice g i j] /\ Heap.le h a /\ FCall P f_RMul #[.agg #[.bool t, .slice u v w, .bool x, .slice y z A], .agg #[.bool b, .slice c d e, .bool f, .slice g i j]] a (fun M s => ∃ (k : Bool) (l : OA) (m n : Nat) (o : Bool) (p : OA) (q r : Nat), M = .agg #[.bool k, .slice l m n, .bool o, .slice p q r] /\ Heap.le a s /\ K (.agg #[.bool k, .slice l m n, .bool o, .slice p q r]) s))
theorem RDiv_ok (a : Bool) (b : OA) (d e : Nat) (f : Bool) (g : OA) (i j : Nat) (k : Bool) (l : OA) (m o : Nat) (p : Bool) (q : OA) (r s : Nat) (hvc : RDiv Tryz.prog a b d e f g i j k l m o p q r s h K) : FCall Tryz.prog f_RDiv #[.agg #[.bool a, .slice b d e, .bool f, .slice g i j], .agg #[.bool k, .slice l m o, .bool p, .slice q r s]] h K :=
  fn_sound Tryz.func85 (c := codeOf Tryz.f85) (by kernel_rfl) (rs := [.cell 4 97]) (by kernel_rfl) (fa := { loops := [], cuts := [], orders := [(1, ([0, 1, 2, 3, 4], [[], [], [1], [0, 1, 2], [0, 1, 2, 3]]))] })
    (cfg := { n := 9, own := [2, 3, 4], lim := none, fns := [80, 100], wr := [] }) (args := [.agg #[.bool a, .slice b d e, .bool f, .slice g i j], .agg #[.bool k, .slice l m o, .bool p, .slice q r s]]) (by kernel_rfl) (Bodies.cons Tryz.call80 (Bodies.cons Tryz.call100 Bodies.nil)) (Eq.mp (by kernel_rfl : RDiv Tryz.prog a b d e f g i j k l m o p q r s h K = _) hvc)
def RPow (P : Program) (e : Bool) (f : OA) (g i : Nat) (j : Bool) (k : OA) (l m : Nat) (a : Int) (h : Heap) (K : Value -> Heap -> Prop) : Prop :=
  FCall P f_ZIsZero #[.agg #[.bool j, .slice k l m]] h (fun L b => ∃ (n : Bool), L = .bool n /\ Br n (FCall P f_ZPow #[.agg #[.bool e, .slice f g i], U a] b (fun M N => ∃ (o : Bool) (p : OA) (q r : Nat), M = .agg #[.bool o, .slice p q r] /\ K (.agg #[.bool o, .slice p q r, .bool false, .slice none 0 0]) N))
  (FCall P f_ZPow #[.agg #[.bool e, .slice f g i], U a] b (fun O c => ∃ (s : Bool) (t : OA) (u v : Nat), O = .agg #[.bool s, .slice t u v] /\ Heap.le b c /\ FCall P f_ZPow #[.agg #[.bool j, .slice k l m], U a] c (fun Q d => ∃ (w : Bool) (x : OA) (y z : Nat), Q = .agg #[.bool w, .slice x y z] /\ Heap.le c d /\ FCall P f_TLowest #[.agg #[.bool s, .slice t u v], .agg #[.bool w, .slice x y z]] d (fun R J => ∃ (A : Bool) (B : OA) (C D : Nat) (E : Bool) (F : OA) (G H : Nat), R = .agg #[.bool A, .slice B C D, .bool E, .slice F G H] /\ Heap.le d J /\ K (.agg #[.bool A, .slice B C D, .bool E, .slice F G H]) J)))))
theorem RPow_ok (b : Bool) (d : OA) (e f : Nat) (g : Bool) (i : OA) (j k : Nat) (a : Int) (hvc : RPow Tryz.prog b d e f g i j k a h K) : FCall Tryz.prog f_RPow #[.agg #[.bool b, .slice d e f, .bool g, .slice i j k], U a] h K :=
  fn_sound Tryz.func81 (c := codeOf Tryz.f81) (by kernel_rfl) (rs := [.cell 4 97]) (by kernel_rfl) (fa := { loops := [], cuts := [], orders := [(3, ([0, 1, 2, 4, 5, 6, 3, 7, 8, 9], [[], [0], [], [0, 1, 2], [], [4], [], [0, 1, 2, 3, 4, 5, 6], [0, 1, 2, 3, 4, 5, 6, 7], [0, 1, 2, 3, 4, 5, 6, 7, 8]]))] })
    (cfg := { n := 22, own := [2, 4], lim := none, fns := [132, 134, 137], wr := [] }) (args := [.agg #[.bool b, .slice d e f, .bool g, .slice i j k], U a]) (by kernel_rfl) (Bodies.cons Tryz.call132 (Bodies.cons Tryz.call134 (Bodies.cons Tryz.call137 Bodies.nil))) (Eq.mp (by kernel_rfl : RPow Tryz.prog b d e f g i j k a h K = _) hvc)
def RFloor (P : Program) (a : Bool) (b : OA) (c d : Nat) (e : Bool) (f : OA) (g i : Nat) (h : Heap) (K : Value -> Heap -> Prop) : Prop :=
  FCall P f_ZIsZero #[.agg #[.bool e, .slice f g i]] h (fun p o => ∃ (j : Bool), p = .bool j /\ Br j (K (.agg #[.bool a, .slice b c d]) o)
  (FCall P f_ZFloorQuo #[.agg #[.bool a, .slice b c d], .agg #[.bool e, .slice f g i]] o (fun q r => ∃ (k : Bool) (l : OA) (m n : Nat), q = .agg #[.bool k, .slice l m n] /\ K (.agg #[.bool k, .slice l m n]) r)))
theorem RFloor_ok (a : Bool) (b : OA) (d e : Nat) (f : Bool) (g : OA) (i j : Nat) (hvc : RFloor Tryz.prog a b d e f g i j h K) : FCall Tryz.prog f_RFloor #[.agg #[.bool a, .slice b d e, .bool f, .slice g i j]] h K :=
  fn_sound Tryz.func86 (c := codeOf Tryz.f86) (by kernel_rfl) (rs := [.cell 2 95]) (by kernel_rfl) (fa := { loops := [], cuts := [], orders := [] })
    (cfg := { n := 13, own := [1, 2], lim := none, fns := [132, 144], wr := [] }) (args := [.agg #[.bool a, .slice b d e, .bool f, .slice g i j]]) (by kernel_rfl) (Bodies.cons Tryz.call132 (Bodies.cons Tryz.call144 Bodies.nil)) (Eq.mp (by kernel_rfl : RFloor Tryz.prog a b d e f g i j h K = _) hvc)
def RCeil (P : Program) (r : Bool) (s : OA) (t u : Nat) (v : Bool) (w : OA) (x y : Nat) (h : Heap) (K : Value -> Heap -> Prop) : Prop :=
  FCall P f_RNeg #[.agg #[.bool r, .slice s t u, .bool v, .slice w x y]] h (fun z A => ∃ (a : Bool) (b : OA) (c d : Nat) (e : Bool) (f : OA) (g i : Nat), z = .agg #[.bool a, .slice b c d, .bool e, .slice f g i] /\ FCall P f_RFloor #[.agg #[.bool a, .slice b c d, .bool e, .slice f g i]] A (fun B C => ∃ (j : Bool) (k : OA) (l m : Nat), B = .agg #[.bool j, .slice k l m] /\ FCall P f_ZNeg #[.agg #[.bool j, .slice k l m]] C (fun D E => ∃ (n : Bool) (o : OA) (p q : Nat), D = .agg #[.bool n, .slice o p q] /\ K (.agg #[.bool n, .slice o p q]) E)))
theorem RCeil_ok (a : Bool) (b : OA) (d e : Nat) (f : Bool) (g : OA) (i j : Nat) (hvc : RCeil Tryz.prog a b d e f g i j h K) : FCall Tryz.prog f_RCeil #[.agg #[.bool a, .slice b d e, .bool f, .slice g i j]] h K :=
  fn_sound Tryz.func116 (c := codeOf Tryz.f116) (by kernel_rfl) (rs := [.cell 2 95]) (by kernel_rfl) (fa := { loops := [], cuts := [], orders := [] })
    (cfg := { n := 7, own := [1, 2], lim := none, fns := [86, 136, 151], wr := [] }) (args := [.agg #[.bool a, .slice b d e, .bool f, .slice g i j]]) (by kernel_rfl) (Bodies.cons Tryz.call86 (Bodies.cons Tryz.call136 (Bodies.cons Tryz.call151 Bodies.nil))) (Eq.mp (by kernel_rfl : RCeil Tryz.prog a b d e f g i j h K = _) hvc)
end Go.Proofs.YtekkjhmfjplljaaGreatDoor
