/-
  Texts of this proof, merged by a program of ours: VcS.
-/
import Derived.Test.YthilnfgnpdeofaaGreatDoorProg
import Derived.Test.YthilnfgnpdeofaaGreatDoorG05
import Derived.Test.YthilnfgnpdeofaaGreatDoorG06
/-
 Written by wip/tools/vcgen.py: what is asked of each function's body;each equation is checked by the kernel.
-/
namespace Go.Proofs.YthilnfgnpdeofaaGreatDoor
open Go
set_option maxRecDepth 100000
set_option linter.unusedVariables false
variable {h:Heap} {K:Value->Heap->Prop}
abbrev f_CAppendUint:Nat:=217
abbrev f_CAppendInt:Nat:=170
abbrev f_CFormatInt:Nat:=169
abbrev f_QAppendUint:Nat:=225
abbrev f_QAppendInt:Nat:=202
abbrev f_QFormatInt:Nat:=201
abbrev f_QFormatBase10:Nat:=223
abbrev f_QSmall:Nat:=221
abbrev f_QNumDigits:Nat:=222
abbrev f_QLog10Pow2:Nat:=238
abbrev f_QBool2:Nat:=240
abbrev f_CCutPrefix:Nat:=194
abbrev f_QCutPrefix:Nat:=219
abbrev f_QHasPrefix:Nat:=236
abbrev ty_a24:Nat:=251
def CAppendUint(P:Program)(d:OA)(e f:Nat)(g:Int)(i:Int)(h:Heap)(K:Value->Heap->Prop):Prop:=
 FCall P f_QAppendUint #[.slice d e f,U g,I i] h (fun j k=>∃ (a:OA) (b c:Nat),j= .slice a b c/\K (.slice a b c) k)
theorem CAppendUint_ok(a:OA)(b d:Nat)(e:Int)(f:Int)(hvc:CAppendUint Tryz.prog a b d e f h K):FCall Tryz.prog f_CAppendUint #[.slice a b d,U e,I f] h K:=
 fn_sound Tryz.func217 (c:=codeOf Tryz.f217) (by kernel_rfl) (rs:=[.tmp 6]) (by kernel_rfl) (fa:={ loops:=[],cuts:=[],orders:=[] })
  (cfg:={ n:=11,own:=[],lim:=none,fns:=[225],wr:=[] }) (args:=[.slice a b d,U e,I f]) (by kernel_rfl) (Bodies.cons Tryz.call225 Bodies.nil) (Eq.mp (by kernel_rfl:CAppendUint Tryz.prog a b d e f h K=_) hvc)
def CFormatInt(P:Program)(b:Int)(c:Int)(h:Heap)(K:Value->Heap->Prop):Prop:=
 FCall P f_QFormatInt #[I b,I c] h (fun d e=>∃ (a:ByteArray),d= .string a/\K (.string a) e)
theorem CFormatInt_ok(a:Int)(b:Int)(hvc:CFormatInt Tryz.prog a b h K):FCall Tryz.prog f_CFormatInt #[I a,I b] h K:=
 fn_sound Tryz.func169 (c:=codeOf Tryz.f169) (by kernel_rfl) (rs:=[.tmp 4]) (by kernel_rfl) (fa:={ loops:=[],cuts:=[],orders:=[] })
  (cfg:={ n:=8,own:=[],lim:=none,fns:=[201],wr:=[] }) (args:=[I a,I b]) (by kernel_rfl) (Bodies.cons Tryz.call201 Bodies.nil) (Eq.mp (by kernel_rfl:CFormatInt Tryz.prog a b h K=_) hvc)
def QAppendUint(P:Program)(c:OA)(d e:Nat)(b:Int)(g:Int)(h:Heap)(K:Value->Heap->Prop):Prop:=
 Br (g==(10:Int)) (Br (decide (b<(100:Int))) (FCall P f_QSmall #[I (wi64 b)] h (fun t u=>∃ (i:ByteArray),t= .string i/\wpH P (Builtin.append_ #[181,9] 181 #[.slice c d e,.string i]) (fun v w=>∃ (j:OA) (k l:Nat),v= .slice j k l/\K (.slice j k l) w) u))
 (wpH P (Instr.alloc 251 true (.tuple #[])) (fun x y=>∃ (f:Addr),x= .pointer (some f)/\FCall P f_QNumDigits #[U b] y (fun z A=>∃ (a:Int),z=I a/\(0<=a/\a<=(24:Int))/\FCall P f_QFormatBase10 #[.slice (cutA (some f) 24 0 1) ((a.toNat)-0) (24-0),U b] A (fun B C=>B= .tuple #[]/\(0<=a/\a<=(24:Int))/\wpH P (Builtin.append_ #[181,181] 181 #[.slice c d e,.slice (cutA (some f) 24 0 1) ((a.toNat)-0) (24-0)]) (fun D E=>∃ (m:OA) (n o:Nat),D= .slice m n o/\K (.slice m n o) E) C))) h))
 (FCall P 224 #[.slice c d e,U b,I g,.bool false,.bool true] h (fun F G=>∃ (p:OA) (q r:Nat) (s:ByteArray),F= .tuple #[.slice p q r,.string s]/\K (.slice p q r) G))
theorem QAppendUint_ok(a:OA)(b d:Nat)(e:Int)(f:Int)(hvc:QAppendUint Tryz.prog a b d e f h K):FCall Tryz.prog f_QAppendUint #[.slice a b d,U e,I f] h K:=
 fn_sound Tryz.func225 (c:=codeOf Tryz.f225) (by kernel_rfl) (rs:=[.tmp 6]) (by kernel_rfl) (fa:={ loops:=[],cuts:=[],orders:=[] })
  (cfg:={ n:=36,own:=[],lim:=none,fns:=[221,222,223,224],wr:=[223] }) (args:=[.slice a b d,U e,I f]) (by kernel_rfl) (Bodies.cons Tryz.call221 (Bodies.cons Tryz.call222 (Bodies.cons Tryz.call223 (Bodies.cons Tryz.call224 Bodies.nil)))) (Eq.mp (by kernel_rfl:QAppendUint Tryz.prog a b d e f h K=_) hvc)
def QFormatInt(P:Program)(a:Int)(g:Int)(h:Heap)(K:Value->Heap->Prop):Prop:=
 Br (g==(10:Int)) (∃ (e:List Value->Heap->Prop),(Br (decide ((0:Int)<=a)) (e [.bool (decide (a<(100:Int)))] h)
 (e [.bool false] h))/\
 ∀ (i:Bool),∀ f,e [.bool i] f->Br i (FCall P f_QSmall #[I a] f (fun v w=>∃ (j:ByteArray),v= .string j/\K (.string j) w))
 (wpH P (Instr.alloc 251 true (.tuple #[])) (fun x p=>∃ (d:Addr),x= .pointer (some d)/\Br (decide (a<(0:Int))) (FCall P f_QNumDigits #[U (wu64 (0-(wu64 a)))] p (fun y z=>∃ (b:Int),y=I b/\(0<=wi64 ((1:Int)+b)/\wi64 ((1:Int)+b)<=(24:Int))/\(0<=(1:Int)/\(1:Int)<=(((wi64 ((1:Int)+b)).toNat:Nat):Int))/\FCall P f_QFormatBase10 #[.slice (cutA (some d) 24 (((1:Int)).toNat) 1) (((wi64 ((1:Int)+b)).toNat)-(((1:Int)).toNat)) (24-(((1:Int)).toNat)),U (wu64 (0-(wu64 a)))] z (fun A q=>A= .tuple #[]/\Br (decide (a<(0:Int))) ((0<=(0:Int)/\(0:Int)<(24:Int))/\wpH P (Instr.storeAt 5 (.pointer (some (d.add (((0:Int)).toNat*1)))) (Y (45:Int))) (fun _ B=>(0<=wi64 ((1:Int)+b)/\wi64 ((1:Int)+b)<=(24:Int))/\wpH P (convert 181 9 (.slice (cutA (some d) 24 0 1) (((wi64 ((1:Int)+b)).toNat)-0) (24-0))) (fun C D=>∃ (k:ByteArray),C= .string k/\K (.string k) D) B) q)
 ((0<=wi64 ((1:Int)+b)/\wi64 ((1:Int)+b)<=(24:Int))/\(0<=(1:Int)/\(1:Int)<=(((wi64 ((1:Int)+b)).toNat:Nat):Int))/\wpH P (convert 181 9 (.slice (cutA (some d) 24 (((1:Int)).toNat) 1) (((wi64 ((1:Int)+b)).toNat)-(((1:Int)).toNat)) (24-(((1:Int)).toNat)))) (fun E F=>∃ (l:ByteArray),E= .string l/\K (.string l) F) q))))
 (FCall P f_QNumDigits #[U (wu64 a)] p (fun G H=>∃ (c:Int),G=I c/\(0<=wi64 ((1:Int)+c)/\wi64 ((1:Int)+c)<=(24:Int))/\(0<=(1:Int)/\(1:Int)<=(((wi64 ((1:Int)+c)).toNat:Nat):Int))/\FCall P f_QFormatBase10 #[.slice (cutA (some d) 24 (((1:Int)).toNat) 1) (((wi64 ((1:Int)+c)).toNat)-(((1:Int)).toNat)) (24-(((1:Int)).toNat)),U (wu64 a)] H (fun J r=>J= .tuple #[]/\Br (decide (a<(0:Int))) ((0<=(0:Int)/\(0:Int)<(24:Int))/\wpH P (Instr.storeAt 5 (.pointer (some (d.add (((0:Int)).toNat*1)))) (Y (45:Int))) (fun _ L=>(0<=wi64 ((1:Int)+c)/\wi64 ((1:Int)+c)<=(24:Int))/\wpH P (convert 181 9 (.slice (cutA (some d) 24 0 1) (((wi64 ((1:Int)+c)).toNat)-0) (24-0))) (fun M N=>∃ (m:ByteArray),M= .string m/\K (.string m) N) L) r)
 ((0<=wi64 ((1:Int)+c)/\wi64 ((1:Int)+c)<=(24:Int))/\(0<=(1:Int)/\(1:Int)<=(((wi64 ((1:Int)+c)).toNat:Nat):Int))/\wpH P (convert 181 9 (.slice (cutA (some d) 24 (((1:Int)).toNat) 1) (((wi64 ((1:Int)+c)).toNat)-(((1:Int)).toNat)) (24-(((1:Int)).toNat)))) (fun O Q=>∃ (n:ByteArray),O= .string n/\K (.string n) Q) r))))) f))
 (FCall P 224 #[.slice none 0 0,U (wu64 a),I g,.bool (decide (a<(0:Int))),.bool false] h (fun R S=>∃ (s:OA) (t u:Nat) (o:ByteArray),R= .tuple #[.slice s t u,.string o]/\K (.string o) S))
theorem QFormatInt_ok(a:Int)(b:Int)(hvc:QFormatInt Tryz.prog a b h K):FCall Tryz.prog f_QFormatInt #[I a,I b] h K:=
 fn_sound Tryz.func201 (c:=codeOf Tryz.f201) (by kernel_rfl) (rs:=[.tmp 4]) (by kernel_rfl) (fa:={ loops:=[],cuts:=[(3,{ slots:=[17],owns:=[],zs:=[.bool false],lim:={ slots:=[12,13,14,15,16,17],keys:=[] } })],orders:=[] })
  (cfg:={ n:=54,own:=[],lim:=none,fns:=[221,222,223,224],wr:=[223] }) (args:=[I a,I b]) (by kernel_rfl) (Bodies.cons Tryz.call221 (Bodies.cons Tryz.call222 (Bodies.cons Tryz.call223 (Bodies.cons Tryz.call224 Bodies.nil)))) (Eq.mp (by kernel_rfl:QFormatInt Tryz.prog a b h K=_) hvc)
def lit_VcS0:ByteArray:={ data:=#[48,48,48,49,48,50,48,51,48,52,48,53,48,54,48,55,48,56,48,57,49,48,49,49,49,50,49,51,49,52,49,53,49,54,49,55,49,56,49,57,50,48,50,49,50,50,50,51,50,52,50,53,50,54,50,55,50,56,50,57,51,48,51,49,51,50,51,51,51,52,51,53,51,54,51,55,51,56,51,57,52,48,52,49,52,50,52,51,52,52,52,53,52,54,52,55,52,56,52,57,53,48,53,49,53,50,53,51,53,52,53,53,53,54,53,55,53,56,53,57,54,48,54,49,54,50,54,51,54,52,54,53,54,54,54,55,54,56,54,57,55,48,55,49,55,50,55,51,55,52,55,53,55,54,55,55,55,56,55,57,56,48,56,49,56,50,56,51,56,52,56,53,56,54,56,55,56,56,56,57,57,48,57,49,57,50,57,51,57,52,57,53,57,54,57,55,57,56,57,57] }
def QFormatBase10C25(P:Program)(c:OA)(d:Nat)(K:Value->Heap->Prop)(e:Int)(f:Int)(a:Heap):Prop:=
 Br (decide (e>(0:Int))) (∃ b,c=some b/\0<=(0:Int)/\(0:Int)<(d:Int)/\wpH P (Instr.storeAt 5 (.pointer (some (b.add (((0:Int)).toNat*1)))) (Y (wu8 (wu32 ((48:Int)+f))))) (fun _ g=>K (.tuple #[]) g) a)
 (K (.tuple #[]) a)
def QFormatBase10C20(P:Program)(c:OA)(d:Nat)(K:Value->Heap->Prop)(a:Int)(b:Int)(f:Heap):Prop:=
 ∃ (e:List Value->Heap->Prop),(Br (decide (a>=(2:Int))) (∃ (g:UInt8),(0<=wu32 ((wu32 ((Int.tmod b (100:Int))*(2:Int)))+1)/\((lit_VcS0:ByteArray))[(wu32 ((wu32 ((Int.tmod b (100:Int))*(2:Int)))+1)).toNat]? = some g)/\∃ (i:UInt8),(0<=wu32 ((Int.tmod b (100:Int))*(2:Int))/\((lit_VcS0:ByteArray))[(wu32 ((Int.tmod b (100:Int))*(2:Int))).toNat]? = some i)/\∃ l,c=some l/\0<=wi64 (a-1)/\wi64 (a-1)<(d:Int)/\wpH P (Instr.storeAt 5 (.pointer (some (l.add ((wi64 (a-1)).toNat*1)))) (Y ((g.toNat:Nat):Int))) (fun _ o=>∃ m,c=some m/\0<=wi64 (a-2)/\wi64 (a-2)<(d:Int)/\wpH P (Instr.storeAt 5 (.pointer (some (m.add ((wi64 (a-2)).toNat*1)))) (Y ((i.toNat:Nat):Int))) (fun _ p=>e [I (wi64 (a-2)),U32 (wu32 (Int.tdiv b (100:Int)))] p) o) f)
 (e [I a,U32 b] f))/\
 ∀ (j:Int) (k:Int),∀ n,e [I j,U32 k] n->QFormatBase10C25 P c d K j k n
def QFormatBase10(P:Program)(d:OA)(c a2:Nat)(N:Int)(h:Heap)(K:Value->Heap->Prop):Prop:=
 ∃ (f:List Value->Heap->Prop) (i:List Value->Heap->Nat),f [U N,I (c:Int)] h/\
 ∀ (b:Int) (a:Int),∀ e,f [U b,I a] e->Br (decide (a>=(8:Int))) (∃ (j:UInt8),(0<=wu32 ((wu32 ((Int.tmod (Int.tmod (wu32 (Int.tmod b (100000000:Int))) (10000:Int)) (100:Int))*(2:Int)))+1)/\((lit_VcS0:ByteArray))[(wu32 ((wu32 ((Int.tmod (Int.tmod (wu32 (Int.tmod b (100000000:Int))) (10000:Int)) (100:Int))*(2:Int)))+1)).toNat]? = some j)/\∃ (k:UInt8),(0<=wu32 ((Int.tmod (Int.tmod (wu32 (Int.tmod b (100000000:Int))) (10000:Int)) (100:Int))*(2:Int))/\((lit_VcS0:ByteArray))[(wu32 ((Int.tmod (Int.tmod (wu32 (Int.tmod b (100000000:Int))) (10000:Int)) (100:Int))*(2:Int))).toNat]? = some k)/\∃ y,d=some y/\0<=wi64 (a-1)/\wi64 (a-1)<(c:Int)/\wpH P (Instr.storeAt 5 (.pointer (some (y.add ((wi64 (a-1)).toNat*1)))) (Y ((j.toNat:Nat):Int))) (fun _ O=>∃ z,d=some z/\0<=wi64 (a-2)/\wi64 (a-2)<(c:Int)/\wpH P (Instr.storeAt 5 (.pointer (some (z.add ((wi64 (a-2)).toNat*1)))) (Y ((k.toNat:Nat):Int))) (fun _ Q=>∃ (l:UInt8),(0<=wu32 ((wu32 ((wu32 (Int.tdiv (Int.tmod (wu32 (Int.tmod b (100000000:Int))) (10000:Int)) (100:Int)))*(2:Int)))+1)/\((lit_VcS0:ByteArray))[(wu32 ((wu32 ((wu32 (Int.tdiv (Int.tmod (wu32 (Int.tmod b (100000000:Int))) (10000:Int)) (100:Int)))*(2:Int)))+1)).toNat]? = some l)/\∃ (m:UInt8),(0<=wu32 ((wu32 (Int.tdiv (Int.tmod (wu32 (Int.tmod b (100000000:Int))) (10000:Int)) (100:Int)))*(2:Int))/\((lit_VcS0:ByteArray))[(wu32 ((wu32 (Int.tdiv (Int.tmod (wu32 (Int.tmod b (100000000:Int))) (10000:Int)) (100:Int)))*(2:Int))).toNat]? = some m)/\∃ A,d=some A/\0<=wi64 (a-3)/\wi64 (a-3)<(c:Int)/\wpH P (Instr.storeAt 5 (.pointer (some (A.add ((wi64 (a-3)).toNat*1)))) (Y ((l.toNat:Nat):Int))) (fun _ R=>∃ B,d=some B/\0<=wi64 (a-4)/\wi64 (a-4)<(c:Int)/\wpH P (Instr.storeAt 5 (.pointer (some (B.add ((wi64 (a-4)).toNat*1)))) (Y ((m.toNat:Nat):Int))) (fun _ S=>∃ (n:UInt8),(0<=wu32 ((wu32 ((Int.tmod (wu32 (Int.tdiv (wu32 (Int.tmod b (100000000:Int))) (10000:Int))) (100:Int))*(2:Int)))+1)/\((lit_VcS0:ByteArray))[(wu32 ((wu32 ((Int.tmod (wu32 (Int.tdiv (wu32 (Int.tmod b (100000000:Int))) (10000:Int))) (100:Int))*(2:Int)))+1)).toNat]? = some n)/\∃ (o:UInt8),(0<=wu32 ((Int.tmod (wu32 (Int.tdiv (wu32 (Int.tmod b (100000000:Int))) (10000:Int))) (100:Int))*(2:Int))/\((lit_VcS0:ByteArray))[(wu32 ((Int.tmod (wu32 (Int.tdiv (wu32 (Int.tmod b (100000000:Int))) (10000:Int))) (100:Int))*(2:Int))).toNat]? = some o)/\∃ C,d=some C/\0<=wi64 (a-5)/\wi64 (a-5)<(c:Int)/\wpH P (Instr.storeAt 5 (.pointer (some (C.add ((wi64 (a-5)).toNat*1)))) (Y ((n.toNat:Nat):Int))) (fun _ T=>∃ D,d=some D/\0<=wi64 (a-6)/\wi64 (a-6)<(c:Int)/\wpH P (Instr.storeAt 5 (.pointer (some (D.add ((wi64 (a-6)).toNat*1)))) (Y ((o.toNat:Nat):Int))) (fun _ V=>∃ (p:UInt8),(0<=wu32 ((wu32 ((wu32 (Int.tdiv (wu32 (Int.tdiv (wu32 (Int.tmod b (100000000:Int))) (10000:Int))) (100:Int)))*(2:Int)))+1)/\((lit_VcS0:ByteArray))[(wu32 ((wu32 ((wu32 (Int.tdiv (wu32 (Int.tdiv (wu32 (Int.tmod b (100000000:Int))) (10000:Int))) (100:Int)))*(2:Int)))+1)).toNat]? = some p)/\∃ (q:UInt8),(0<=wu32 ((wu32 (Int.tdiv (wu32 (Int.tdiv (wu32 (Int.tmod b (100000000:Int))) (10000:Int))) (100:Int)))*(2:Int))/\((lit_VcS0:ByteArray))[(wu32 ((wu32 (Int.tdiv (wu32 (Int.tdiv (wu32 (Int.tmod b (100000000:Int))) (10000:Int))) (100:Int)))*(2:Int))).toNat]? = some q)/\∃ E,d=some E/\0<=wi64 (a-7)/\wi64 (a-7)<(c:Int)/\wpH P (Instr.storeAt 5 (.pointer (some (E.add ((wi64 (a-7)).toNat*1)))) (Y ((p.toNat:Nat):Int))) (fun _ W=>∃ F,d=some F/\0<=wi64 (a-8)/\wi64 (a-8)<(c:Int)/\wpH P (Instr.storeAt 5 (.pointer (some (F.add ((wi64 (a-8)).toNat*1)))) (Y ((q.toNat:Nat):Int))) (fun _ x=>f [U (wu64 (Int.tdiv b (100000000:Int))),I (wi64 (a-8))] x/\i [U (wu64 (Int.tdiv b (100000000:Int))),I (wi64 (a-8))] x<i [U b,I a] e) W) V) T) S) R) Q) O) e)
 (∃ (g:List Value->Heap->Prop),(Br (decide (a>=(4:Int))) (∃ (r:UInt8),(0<=wu32 ((wu32 ((Int.tmod (Int.tmod (wu32 b) (10000:Int)) (100:Int))*(2:Int)))+1)/\((lit_VcS0:ByteArray))[(wu32 ((wu32 ((Int.tmod (Int.tmod (wu32 b) (10000:Int)) (100:Int))*(2:Int)))+1)).toNat]? = some r)/\∃ (s:UInt8),(0<=wu32 ((Int.tmod (Int.tmod (wu32 b) (10000:Int)) (100:Int))*(2:Int))/\((lit_VcS0:ByteArray))[(wu32 ((Int.tmod (Int.tmod (wu32 b) (10000:Int)) (100:Int))*(2:Int))).toNat]? = some s)/\∃ G,d=some G/\0<=wi64 (a-1)/\wi64 (a-1)<(c:Int)/\wpH P (Instr.storeAt 5 (.pointer (some (G.add ((wi64 (a-1)).toNat*1)))) (Y ((r.toNat:Nat):Int))) (fun _ X=>∃ H,d=some H/\0<=wi64 (a-2)/\wi64 (a-2)<(c:Int)/\wpH P (Instr.storeAt 5 (.pointer (some (H.add ((wi64 (a-2)).toNat*1)))) (Y ((s.toNat:Nat):Int))) (fun _ Z=>∃ (t:UInt8),(0<=wu32 ((wu32 ((wu32 (Int.tdiv (Int.tmod (wu32 b) (10000:Int)) (100:Int)))*(2:Int)))+1)/\((lit_VcS0:ByteArray))[(wu32 ((wu32 ((wu32 (Int.tdiv (Int.tmod (wu32 b) (10000:Int)) (100:Int)))*(2:Int)))+1)).toNat]? = some t)/\∃ (u:UInt8),(0<=wu32 ((wu32 (Int.tdiv (Int.tmod (wu32 b) (10000:Int)) (100:Int)))*(2:Int))/\((lit_VcS0:ByteArray))[(wu32 ((wu32 (Int.tdiv (Int.tmod (wu32 b) (10000:Int)) (100:Int)))*(2:Int))).toNat]? = some u)/\∃ J,d=some J/\0<=wi64 (a-3)/\wi64 (a-3)<(c:Int)/\wpH P (Instr.storeAt 5 (.pointer (some (J.add ((wi64 (a-3)).toNat*1)))) (Y ((t.toNat:Nat):Int))) (fun _ a0=>∃ L,d=some L/\0<=wi64 (a-4)/\wi64 (a-4)<(c:Int)/\wpH P (Instr.storeAt 5 (.pointer (some (L.add ((wi64 (a-4)).toNat*1)))) (Y ((u.toNat:Nat):Int))) (fun _ a1=>g [I (wi64 (a-4)),U32 (wu32 (Int.tdiv (wu32 b) (10000:Int)))] a1) a0) Z) X) e)
 (g [I a,U32 (wu32 b)] e))/\
 ∀ (v:Int) (w:Int),∀ M,g [I v,U32 w] M->QFormatBase10C20 P d c K v w M)
theorem QFormatBase10_ok(a:OA)(b d:Nat)(e:Int)(hvc:QFormatBase10 Tryz.prog a b d e h K):FCall Tryz.prog f_QFormatBase10 #[.slice a b d,U e] h K:=
 fn_sound Tryz.func223 (c:=codeOf Tryz.f223) (by kernel_rfl) (rs:=[]) (by kernel_rfl) (fa:={ loops:=[(1,{ slots:=[1,4],owns:=[],zs:=[.int .u64 0,.int .i64 0],lim:={ slots:=([1]++List.range' 4 8++List.range' 19 77),keys:=[] } })],cuts:=[(20,{ slots:=[4,12],owns:=[],zs:=[.int .i64 0,.int .u32 0],lim:={ slots:=([4,12,13,14,15]++List.range' 98 40),keys:=[] } }),(25,{ slots:=[4,12],owns:=[],zs:=[.int .i64 0,.int .u32 0],lim:={ slots:=([4,12,16]++List.range' 138 22),keys:=[] } })],orders:=[(7,((List.range' 0 15),[[],[],[1],[],[],[4],[],[6],[6,7],[],[9],[0,1,2,6,7,8],[0,1,2,6,7,8,11],(List.range' 0 13),(List.range' 0 14)])),(8,((List.range' 0 15),[[],[],[1],[],[],[4],[],[6],[6,7],[],[9],[0,1,2,6,7,8],[0,1,2,6,7,8,11],(List.range' 0 13),(List.range' 0 14)])),(9,((List.range' 0 15),[[],[],[1],[],[],[4],[],[6],[6,7],[],[9],[0,1,2,6,7,8],[0,1,2,6,7,8,11],(List.range' 0 13),(List.range' 0 14)])),(10,((List.range' 0 15),[[],[],[1],[],[],[4],[],[6],[6,7],[],[9],[0,1,2,6,7,8],[0,1,2,6,7,8,11],(List.range' 0 13),(List.range' 0 14)])),(17,((List.range' 0 15),[[],[],[1],[],[],[4],[],[6],[6,7],[],[9],[0,1,2,6,7,8],[0,1,2,6,7,8,11],(List.range' 0 13),(List.range' 0 14)])),(18,((List.range' 0 15),[[],[],[1],[],[],[4],[],[6],[6,7],[],[9],[0,1,2,6,7,8],[0,1,2,6,7,8,11],(List.range' 0 13),(List.range' 0 14)])),(23,((List.range' 0 15),[[],[],[1],[],[],[4],[],[6],[6,7],[],[9],[0,1,2,6,7,8],[0,1,2,6,7,8,11],(List.range' 0 13),(List.range' 0 14)]))] })
  (cfg:={ n:=167,own:=[],lim:=none,fns:=[],wr:=[] }) (args:=[.slice a b d,U e]) (by kernel_rfl) Bodies.nil (Eq.mp (by kernel_rfl:QFormatBase10 Tryz.prog a b d e h K=_) hvc)
def lit_VcS1:ByteArray:={ data:=#[48,49,50,51,52,53,54,55,56,57,97,98,99,100,101,102,103,104,105,106,107,108,109,110,111,112,113,114,115,116,117,118,119,120,121,122] }
def QSmall(P:Program)(a:Int)(h:Heap)(K:Value->Heap->Prop):Prop:=
 Br (decide (a<(10:Int))) ((0<=wi64 (a+1)/\wi64 (a+1)<=((((lit_VcS1:ByteArray)).size:Nat):Int))/\(0<=a/\a<=(((wi64 (a+1)).toNat:Nat):Int))/\K (.string (((lit_VcS1:ByteArray)).extract (a.toNat) ((wi64 (a+1)).toNat))) h)
 ((0<=wi64 ((wi64 (a*(2:Int)))+2)/\wi64 ((wi64 (a*(2:Int)))+2)<=((((lit_VcS0:ByteArray)).size:Nat):Int))/\(0<=wi64 (a*(2:Int))/\wi64 (a*(2:Int))<=(((wi64 ((wi64 (a*(2:Int)))+2)).toNat:Nat):Int))/\K (.string (((lit_VcS0:ByteArray)).extract ((wi64 (a*(2:Int))).toNat) ((wi64 ((wi64 (a*(2:Int)))+2)).toNat))) h)
theorem QSmall_ok(a:Int)(hvc:QSmall Tryz.prog a h K):FCall Tryz.prog f_QSmall #[I a] h K:=
 fn_sound Tryz.func221 (c:=codeOf Tryz.f221) (by kernel_rfl) (rs:=[.tmp 2]) (by kernel_rfl) (fa:={ loops:=[],cuts:=[],orders:=[] })
  (cfg:={ n:=15,own:=[],lim:=none,fns:=[],wr:=[] }) (args:=[I a]) (by kernel_rfl) Bodies.nil (Eq.mp (by kernel_rfl:QSmall Tryz.prog a h K=_) hvc)
def QNumDigits(P:Program)(b:Int)(h:Heap)(K:Value->Heap->Prop):Prop:=
 FCall P f_BLen64 #[U b] h (fun g i=>∃ (c:Int),g=I c/\FCall P f_QLog10Pow2 #[I c] i (fun j f=>∃ (a:Int),j=I a/\(0<=a/\a<(20:Int))/\∃ (d:Int),f.cell? (Addr.add (⟨2,0,none⟩) (a.toNat*1))=some (U d)/\FCall P f_QBool2 #[.bool (decide (b>=d))] f (fun k l=>∃ (e:Int),k=I e/\K (I (wi64 (a+e))) l)))
theorem QNumDigits_ok(a:Int)(hvc:QNumDigits Tryz.prog a h K):FCall Tryz.prog f_QNumDigits #[U a] h K:=
 fn_sound Tryz.func222 (c:=codeOf Tryz.f222) (by kernel_rfl) (rs:=[.tmp 2]) (by kernel_rfl) (fa:={ loops:=[],cuts:=[],orders:=[] })
  (cfg:={ n:=15,own:=[],lim:=none,fns:=[238,239,240],wr:=[] }) (args:=[U a]) (by kernel_rfl) (Bodies.cons Tryz.call238 (Bodies.cons Tryz.call239 (Bodies.cons Tryz.call240 Bodies.nil))) (Eq.mp (by kernel_rfl:QNumDigits Tryz.prog a h K=_) hvc)
def QLog10Pow2(P:Program)(a:Int)(h:Heap)(K:Value->Heap->Prop):Prop:=
 K (I (Int.fdiv (wi64 (a*(78913:Int))) (2^(min ((18:Int)).toNat 64)))) h
theorem QLog10Pow2_ok(a:Int)(hvc:QLog10Pow2 Tryz.prog a h K):FCall Tryz.prog f_QLog10Pow2 #[I a] h K:=
 fn_sound Tryz.func238 (c:=codeOf Tryz.f238) (by kernel_rfl) (rs:=[.tmp 2]) (by kernel_rfl) (fa:={ loops:=[],cuts:=[],orders:=[] })
  (cfg:={ n:=6,own:=[],lim:=none,fns:=[],wr:=[] }) (args:=[I a]) (by kernel_rfl) Bodies.nil (Eq.mp (by kernel_rfl:QLog10Pow2 Tryz.prog a h K=_) hvc)
def QBool2(P:Program)(a:Bool)(h:Heap)(K:Value->Heap->Prop):Prop:=
 Br a (K (I 1) h)
 (K (I 0) h)
theorem QBool2_ok(a:Bool)(hvc:QBool2 Tryz.prog a h K):FCall Tryz.prog f_QBool2 #[.bool a] h K:=
 fn_sound Tryz.func240 (c:=codeOf Tryz.f240) (by kernel_rfl) (rs:=[.tmp 2]) (by kernel_rfl) (fa:={ loops:=[],cuts:=[],orders:=[] })
  (cfg:={ n:=4,own:=[],lim:=none,fns:=[],wr:=[] }) (args:=[.bool a]) (by kernel_rfl) Bodies.nil (Eq.mp (by kernel_rfl:QBool2 Tryz.prog a h K=_) hvc)
def CCutPrefix(P:Program)(c d:ByteArray)(h:Heap)(K:Value->Heap->Prop):Prop:=
 FCall P f_QCutPrefix #[.string c,.string d] h (fun e f=>∃ (a:ByteArray) (b:Bool),e= .tuple #[.string a,.bool b]/\K (.tuple #[.string a,.bool b]) f)
theorem CCutPrefix_ok(a b:ByteArray)(hvc:CCutPrefix Tryz.prog a b h K):FCall Tryz.prog f_CCutPrefix #[.string a,.string b] h K:=
 fn_sound Tryz.func194 (c:=codeOf Tryz.f194) (by kernel_rfl) (rs:=[.tmp 4,.tmp 5]) (by kernel_rfl) (fa:={ loops:=[],cuts:=[],orders:=[] })
  (cfg:={ n:=11,own:=[],lim:=none,fns:=[219],wr:=[] }) (args:=[.string a,.string b]) (by kernel_rfl) (Bodies.cons Tryz.call219 Bodies.nil) (Eq.mp (by kernel_rfl:CCutPrefix Tryz.prog a b h K=_) hvc)
def QCutPrefix(P:Program)(a b:ByteArray)(h:Heap)(K:Value->Heap->Prop):Prop:=
 FCall P f_QHasPrefix #[.string a,.string b] h (fun e d=>∃ (c:Bool),e= .bool c/\Br (!c) (K (.tuple #[.string a,.bool false]) d)
 ((0<=((ByteArray.size b:Nat):Int)/\((ByteArray.size b:Nat):Int)<=(((a).size:Nat):Int))/\K (.tuple #[.string ((a).extract ((((ByteArray.size b:Nat):Int)).toNat) ((a).size)),.bool true]) d))
theorem QCutPrefix_ok(a b:ByteArray)(hvc:QCutPrefix Tryz.prog a b h K):FCall Tryz.prog f_QCutPrefix #[.string a,.string b] h K:=
 fn_sound Tryz.func219 (c:=codeOf Tryz.f219) (by kernel_rfl) (rs:=[.tmp 4,.tmp 5]) (by kernel_rfl) (fa:={ loops:=[],cuts:=[],orders:=[] })
  (cfg:={ n:=15,own:=[],lim:=none,fns:=[236],wr:=[] }) (args:=[.string a,.string b]) (by kernel_rfl) (Bodies.cons Tryz.call236 Bodies.nil) (Eq.mp (by kernel_rfl:QCutPrefix Tryz.prog a b h K=_) hvc)
def QHasPrefix(P:Program)(b a:ByteArray)(h:Heap)(K:Value->Heap->Prop):Prop:=
 Br (decide (((ByteArray.size b:Nat):Int)>=((ByteArray.size a:Nat):Int))) ((0<=((ByteArray.size a:Nat):Int)/\((ByteArray.size a:Nat):Int)<=(((b).size:Nat):Int))/\K (.bool (ByteArray.toList ((b).extract 0 ((((ByteArray.size a:Nat):Int)).toNat))==ByteArray.toList a)) h)
 (K (.bool false) h)
theorem QHasPrefix_ok(a b:ByteArray)(hvc:QHasPrefix Tryz.prog a b h K):FCall Tryz.prog f_QHasPrefix #[.string a,.string b] h K:=
 fn_sound Tryz.func236 (c:=codeOf Tryz.f236) (by kernel_rfl) (rs:=[.tmp 4]) (by kernel_rfl) (fa:={ loops:=[],cuts:=[],orders:=[] })
  (cfg:={ n:=18,own:=[],lim:=none,fns:=[],wr:=[] }) (args:=[.string a,.string b]) (by kernel_rfl) Bodies.nil (Eq.mp (by kernel_rfl:QHasPrefix Tryz.prog a b h K=_) hvc)
end Go.Proofs.YthilnfgnpdeofaaGreatDoor
