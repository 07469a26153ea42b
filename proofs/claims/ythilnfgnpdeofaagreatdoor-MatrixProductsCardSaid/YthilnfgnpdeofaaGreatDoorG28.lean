/-
  Texts of this proof, merged by a program of ours: VcM.
-/
import Derived.Test.YthilnfgnpdeofaaGreatDoorProg
import Derived.Test.YthilnfgnpdeofaaGreatDoorG05
import Derived.Test.YthilnfgnpdeofaaGreatDoorG12
import Derived.Test.YthilnfgnpdeofaaGreatDoorG06
import Derived.Test.YthilnfgnpdeofaaGreatDoorG09
import Derived.Test.YthilnfgnpdeofaaGreatDoorG26
import Derived.Test.YthilnfgnpdeofaaGreatDoorG08
/-
 Written by wip/tools/vcgen.py: what is asked of each function's body;each equation is checked by the kernel.
-/
namespace Go.Proofs.YthilnfgnpdeofaaGreatDoor
open Go
set_option maxRecDepth 100000
set_option linter.unusedVariables false
variable {h:Heap} {K:Value->Heap->Prop}
abbrev f_TReadAll:Nat:=79
abbrev f_TStrings:Nat:=81
abbrev f_TCommonDenominator:Nat:=132
abbrev f_TWhole:Nat:=96
abbrev f_RScaled:Nat:=133
abbrev f_MValid:Nat:=43
abbrev f_MHasShape:Nat:=108
abbrev f_MRead:Nat:=67
abbrev f_MWrite:Nat:=71
abbrev f_MNew:Nat:=49
abbrev f_MIdentity:Nat:=51
abbrev f_MAt:Nat:=54
abbrev f_MTranspose:Nat:=45
abbrev f_MAdd:Nat:=57
abbrev f_MSub:Nat:=60
abbrev f_MCombine:Nat:=116
abbrev f_MScale:Nat:=46
abbrev f_MMul:Nat:=33
abbrev f_MApply:Nat:=35
abbrev f_MNewVector:Nat:=94
abbrev f_MVectors:Nat:=91
abbrev f_MReduce:Nat:=15
abbrev f_MRank:Nat:=17
abbrev f_MDet:Nat:=37
abbrev f_MInverse:Nat:=39
abbrev f_MSolve:Nat:=23
abbrev f_MKernel:Nat:=18
abbrev f_MLU:Nat:=41
abbrev f_MSolve1:Nat:=80
abbrev f_MTransposeS:Nat:=111
abbrev f_MTransposeQ:Nat:=82
abbrev f_MTimes:Nat:=92
abbrev f_MNewTable:Nat:=68
abbrev f_BRow:Nat:=76
abbrev f_BSwap:Nat:=102
abbrev f_BFind:Nat:=101
abbrev f_BClear:Nat:=104
abbrev f_BReduce:Nat:=69
abbrev f_BMerge:Nat:=270
abbrev f_MChunk:Nat:=131
abbrev f_MChunk1:Nat:=174
abbrev f_MContains:Nat:=74
abbrev f_MIndex:Nat:=141
abbrev f_MConcat:Nat:=113
abbrev f_MRepeat:Nat:=114
abbrev f_MGrow:Nat:=164
abbrev f_FValid:Nat:=53
abbrev f_FRows:Nat:=27
abbrev f_FPack:Nat:=73
abbrev f_FBlank:Nat:=89
abbrev f_FUnit:Nat:=115
abbrev f_FCopy:Nat:=105
abbrev f_FTurn:Nat:=31
abbrev f_FTimes:Nat:=93
abbrev f_FDot:Nat:=29
abbrev f_FAct:Nat:=30
abbrev f_FEchelon:Nat:=72
abbrev f_FNew:Nat:=50
abbrev f_FIdentity:Nat:=52
abbrev f_FAt:Nat:=55
abbrev f_FTranspose:Nat:=56
abbrev f_FCombine:Nat:=58
abbrev f_FScale:Nat:=61
abbrev f_FMul:Nat:=34
abbrev f_FApply:Nat:=36
abbrev f_FReduce:Nat:=16
abbrev f_FDet:Nat:=38
abbrev f_FInvert:Nat:=99
abbrev f_FInverse:Nat:=40
abbrev f_FNull:Nat:=78
abbrev f_FKernel:Nat:=19
abbrev f_FSolution:Nat:=83
abbrev f_FSolve:Nat:=24
abbrev f_FLU:Nat:=42
abbrev f_KShort:Nat:=22
abbrev f_KSmallMatrix:Nat:=48
abbrev f_KStrings:Nat:=25
abbrev f_KInts:Nat:=21
abbrev f_KMatrices:Nat:=20
abbrev f_KOwnMatrix:Nat:=44
abbrev f_KOwn:Nat:=110
abbrev f_KSpoil:Nat:=47
abbrev f_KMod:Nat:=64
abbrev f_LAwake:Nat:=14
abbrev f_LSmall:Nat:=13
abbrev f_LMatrixNew:Nat:=9
abbrev f_LMatrixLinear:Nat:=10
abbrev f_LMatrixProducts:Nat:=5
abbrev f_LMatrixReduce:Nat:=3
abbrev f_LMatrixInverse:Nat:=6
abbrev f_LMatrixSolve:Nat:=4
abbrev f_LMatrixRing:Nat:=8
abbrev f_LMatrixDeterminant:Nat:=12
abbrev f_LMatrixFactors:Nat:=11
abbrev f_LMatrixOwn:Nat:=7
abbrev ty_tSum:Nat:=185
abbrev ty_tTable:Nat:=99
abbrev ty_tPTable:Nat:=90
abbrev ty_tMat:Nat:=24
abbrev ty_tVec:Nat:=126
abbrev ty_tInts:Nat:=27
abbrev ty_tInts_e:Nat:=3
theorem tInts:SliceT Tryz.prog ty_tInts ty_tInts_e (I 0) 1 8:=⟨by kernel_rfl,by kernel_rfl,rfl,by decide⟩
abbrev ty_tRqs:Nat:=87
abbrev ty_tRqs_e:Nat:=101
theorem tRqs:SliceT Tryz.prog ty_tRqs ty_tRqs_e (.agg #[.bool false,.slice none 0 0,.bool false,.slice none 0 0]) 4 64:=⟨by kernel_rfl,by kernel_rfl,rfl,by decide⟩
theorem tRqs_one:Tryz.prog.cellsOf ty_tRqs_e=4/\(Tryz.prog.info? ty_tRqs_e).isSome=true:=⟨by kernel_rfl,by kernel_rfl⟩
abbrev ty_tZs:Nat:=97
abbrev ty_tZs_e:Nat:=94
theorem tZs:SliceT Tryz.prog ty_tZs ty_tZs_e (.agg #[.bool false,.slice none 0 0]) 2 32:=⟨by kernel_rfl,by kernel_rfl,rfl,by decide⟩
theorem tZs_one:Tryz.prog.cellsOf ty_tZs_e=2/\(Tryz.prog.info? ty_tZs_e).isSome=true:=⟨by kernel_rfl,by kernel_rfl⟩
abbrev ty_tQss:Nat:=46
abbrev ty_tQss_e:Nat:=43
theorem tQss:SliceT Tryz.prog ty_tQss ty_tQss_e (.slice none 0 0) 1 24:=⟨by kernel_rfl,by kernel_rfl,rfl,by decide⟩
theorem tQss_one:Tryz.prog.cellsOf ty_tQss_e=1/\(Tryz.prog.info? ty_tQss_e).isSome=true:=⟨by kernel_rfl,by kernel_rfl⟩
abbrev ty_tVecs:Nat:=123
abbrev ty_tVecs_e:Nat:=126
theorem tVecs:SliceT Tryz.prog ty_tVecs ty_tVecs_e (.agg #[.slice none 0 0,.bool false,.slice none 0 0]) 3 56:=⟨by kernel_rfl,by kernel_rfl,rfl,by decide⟩
abbrev ty_tStrss:Nat:=71
abbrev ty_tStrss_e:Nat:=22
def TReadAll(P:Program)(x:OA)(c B:Nat)(h:Heap)(K:Value->Heap->Prop):Prop:=
 wpH P (Instr.makeSlice 87 (I (c:Int)) (I (c:Int))) (fun y z=>∃ (d:OA) (e g:Nat),y= .slice d e g/\∃ (f:List Value->Heap->Prop) (i:List Value->Heap->Nat),f [I 0] z/\
 ∀ (a:Int),∀ b,f [I a] b->Br (decide (a<(c:Int))) (∃ v,x=some v/\0<=a/\a<(c:Int)/\∃ (j:ByteArray),b.cell? (v.add (a.toNat*1))=some (.string j)/\FCall P f_TRead #[.string j] b (fun A t=>∃ (k:Bool) (l:OA) (m n:Nat) (o:Bool) (p:OA) (q r:Nat) (s:Bool),A= .tuple #[.agg #[.bool k,.slice l m n,.bool o,.slice p q r],.bool s]/\Br (!s) (K (.tuple #[.slice none 0 0,.bool false]) t)
 (∃ w,d=some w/\0<=a/\a<(e:Int)/\wpH P (Instr.storeAt 101 (.pointer (some (w.add (a.toNat*4)))) (.agg #[.bool k,.slice l m n,.bool o,.slice p q r])) (fun _ u=>f [I (wi64 (a+1))] u/\i [I (wi64 (a+1))] u<i [I a] b) t)))
 (K (.tuple #[.slice d e g,.bool true]) b)) h
theorem TReadAll_ok(a:OA)(b d:Nat)(hvc:TReadAll Tryz.prog a b d h K):FCall Tryz.prog f_TReadAll #[.slice a b d] h K:=
 fn_sound Tryz.func79 (c:=codeOf Tryz.f79) (by kernel_rfl) (rs:=[.tmp 2,.tmp 3]) (by kernel_rfl) (fa:={ loops:=[(3,{ slots:=[14],owns:=[],zs:=[.int .i64 0],lim:={ slots:=([2,3,5,6,7,8]++List.range' 14 17),keys:=[7] } })],cuts:=[],orders:=[] })
  (cfg:={ n:=32,own:=[7],lim:=none,fns:=[112],wr:=[] }) (args:=[.slice a b d]) (by kernel_rfl) (Bodies.cons Tryz.call112 Bodies.nil) (Eq.mp (by kernel_rfl:TReadAll Tryz.prog a b d h K=_) hvc)
def TStrings(P:Program)(v:OA)(d A:Nat)(h:Heap)(K:Value->Heap->Prop):Prop:=
 wpH P (Instr.makeSlice 22 (I (d:Int)) (I (d:Int))) (fun w x=>∃ (e:OA) (f i:Nat),w= .slice e f i/\∃ (g:List Value->Heap->Prop) (j:List Value->Heap->Nat),g [I 0] x/\
 ∀ (a:Int),∀ b,g [I a] b->Br (decide (a<(d:Int))) (∃ c,v=some c/\0<=a/\a<(d:Int)/\∃ (k:Bool) (l:OA) (m n:Nat) (o:Bool) (p:OA) (q r:Nat),b.cell? (Addr.add (c.add (a.toNat*4)) 0)=some (.bool k)/\b.cell? (Addr.add (c.add (a.toNat*4)) 1)=some (.slice l m n)/\b.cell? (Addr.add (c.add (a.toNat*4)) 2)=some (.bool o)/\b.cell? (Addr.add (c.add (a.toNat*4)) 3)=some (.slice p q r)/\FCall P f_RString #[.agg #[.bool k,.slice l m n,.bool o,.slice p q r]] b (fun y z=>∃ (s:ByteArray),y= .string s/\∃ u,e=some u/\0<=a/\a<(f:Int)/\wpH P (Instr.storeAt 9 (.pointer (some (u.add (a.toNat*1)))) (.string s)) (fun _ t=>g [I (wi64 (a+1))] t/\j [I (wi64 (a+1))] t<j [I a] b) z))
 (K (.slice e f i) b)) h
theorem TStrings_ok(a:OA)(b d:Nat)(hvc:TStrings Tryz.prog a b d h K):FCall Tryz.prog f_TStrings #[.slice a b d] h K:=
 fn_sound Tryz.func81 (c:=codeOf Tryz.f81) (by kernel_rfl) (rs:=[.tmp 2]) (by kernel_rfl) (fa:={ loops:=[(3,{ slots:=[11],owns:=[],zs:=[.int .i64 0],lim:={ slots:=([4,5]++List.range' 11 11),keys:=[5] } })],cuts:=[],orders:=[] })
  (cfg:={ n:=23,own:=[5],lim:=none,fns:=[95],wr:=[] }) (args:=[.slice a b d]) (by kernel_rfl) (Bodies.cons Tryz.call95 Bodies.nil) (Eq.mp (by kernel_rfl:TStrings Tryz.prog a b d h K=_) hvc)
def TCommonDenominator(P:Program)(C:OA)(u O:Nat)(h:Heap)(K:Value->Heap->Prop):Prop:=
 FCall P f_WNew #[I 1] h (fun H J=>∃ (v:Bool) (w:OA) (x y:Nat),H= .agg #[.bool v,.slice w x y]/\∃ (i:List Value->Heap->Prop) (g:List Value->Heap->Nat),i [I 0,.bool v,.slice w x y] J/\
 ∀ (a:Int) (b:Bool) (c:OA) (d e:Nat),∀ f,i [I a,.bool b,.slice c d e] f->Br (decide (a<(u:Int))) (∃ j,C=some j/\0<=a/\a<(u:Int)/\∃ (D:Bool) (E:OA) (F G:Nat) (k:Bool) (l:OA) (m n:Nat),f.cell? (Addr.add (j.add (a.toNat*4)) 0)=some (.bool D)/\f.cell? (Addr.add (j.add (a.toNat*4)) 1)=some (.slice E F G)/\f.cell? (Addr.add (j.add (a.toNat*4)) 2)=some (.bool k)/\f.cell? (Addr.add (j.add (a.toNat*4)) 3)=some (.slice l m n)/\FCall P f_ZIsZero #[.agg #[.bool k,.slice l m n]] f (fun L s=>∃ (z:Bool),L= .bool z/\Br (!z) (FCall P f_ZEqual #[.agg #[.bool k,.slice l m n],.agg #[.bool b,.slice c d e]] s (fun M t=>∃ (A:Bool),M= .bool A/\Br (!A) (FCall P f_ZLCM #[.agg #[.bool b,.slice c d e],.agg #[.bool k,.slice l m n]] t (fun N B=>∃ (o:Bool) (p:OA) (q r:Nat),N= .agg #[.bool o,.slice p q r]/\i [I (wi64 (a+1)),.bool o,.slice p q r] B/\g [I (wi64 (a+1)),.bool o,.slice p q r] B<g [I a,.bool b,.slice c d e] f))
 (i [I (wi64 (a+1)),.bool b,.slice c d e] t/\g [I (wi64 (a+1)),.bool b,.slice c d e] t<g [I a,.bool b,.slice c d e] f)))
 (i [I (wi64 (a+1)),.bool b,.slice c d e] s/\g [I (wi64 (a+1)),.bool b,.slice c d e] s<g [I a,.bool b,.slice c d e] f)))
 (K (.agg #[.bool b,.slice c d e]) f))
theorem TCommonDenominator_ok(a:OA)(b d:Nat)(hvc:TCommonDenominator Tryz.prog a b d h K):FCall Tryz.prog f_TCommonDenominator #[.slice a b d] h K:=
 fn_sound Tryz.func132 (c:=codeOf Tryz.f132) (by kernel_rfl) (rs:=[.cell 2 94]) (by kernel_rfl) (fa:={ loops:=[(3,{ slots:=[9],owns:=[(3,2)],zs:=[.int .i64 0,.bool false,.slice none 0 0],lim:={ slots:=([5]++List.range' 9 20),keys:=[3,5] } })],cuts:=[],orders:=[] })
  (cfg:={ n:=30,own:=[2,3,5],lim:=none,fns:=[100,135,175,176],wr:=[] }) (args:=[.slice a b d]) (by kernel_rfl) (Bodies.cons Tryz.call100 (Bodies.cons Tryz.call135 (Bodies.cons Tryz.call175 (Bodies.cons Tryz.call176 Bodies.nil)))) (Eq.mp (by kernel_rfl:TCommonDenominator Tryz.prog a b d h K=_) hvc)
def TWhole(P:Program)(a:Bool)(b:OA)(c d:Nat)(h:Heap)(K:Value->Heap->Prop):Prop:=
 K (.agg #[.bool a,.slice b c d,.bool false,.slice none 0 0]) h
theorem TWhole_ok(a:Bool)(b:OA)(d e:Nat)(hvc:TWhole Tryz.prog a b d e h K):FCall Tryz.prog f_TWhole #[.agg #[.bool a,.slice b d e]] h K:=
 fn_sound Tryz.func96 (c:=codeOf Tryz.f96) (by kernel_rfl) (rs:=[.cell 2 101]) (by kernel_rfl) (fa:={ loops:=[],cuts:=[],orders:=[] })
  (cfg:={ n:=5,own:=[1,2],lim:=none,fns:=[],wr:=[] }) (args:=[.agg #[.bool a,.slice b d e]]) (by kernel_rfl) Bodies.nil (Eq.mp (by kernel_rfl:TWhole Tryz.prog a b d e h K=_) hvc)
def RScaled(P:Program)(c:Bool)(d:OA)(e f:Nat)(g:Bool)(i:OA)(j k:Nat)(l:Bool)(m:OA)(n o:Nat)(h:Heap)(K:Value->Heap->Prop):Prop:=
 FCall P f_ZIsZero #[.agg #[.bool g,.slice i j k]] h (fun D a=>∃ (p:Bool),D= .bool p/\Br p (FCall P f_ZMul #[.agg #[.bool c,.slice d e f],.agg #[.bool l,.slice m n o]] a (fun E F=>∃ (q:Bool) (r:OA) (s t:Nat),E= .agg #[.bool q,.slice r s t]/\K (.agg #[.bool q,.slice r s t]) F))
 (FCall P f_ZQuo #[.agg #[.bool l,.slice m n o],.agg #[.bool g,.slice i j k]] a (fun G b=>∃ (u:Bool) (v:OA) (w x:Nat),G= .agg #[.bool u,.slice v w x]/\Heap.le a b/\FCall P f_ZMul #[.agg #[.bool c,.slice d e f],.agg #[.bool u,.slice v w x]] b (fun H C=>∃ (y:Bool) (z:OA) (A B:Nat),H= .agg #[.bool y,.slice z A B]/\Heap.le b C/\K (.agg #[.bool y,.slice z A B]) C))))
theorem RScaled_ok(a:Bool)(b:OA)(d e:Nat)(f:Bool)(g:OA)(i j:Nat)(k:Bool)(l:OA)(m o:Nat)(hvc:RScaled Tryz.prog a b d e f g i j k l m o h K):FCall Tryz.prog f_RScaled #[.agg #[.bool a,.slice b d e,.bool f,.slice g i j],.agg #[.bool k,.slice l m o]] h K:=
 fn_sound Tryz.func133 (c:=codeOf Tryz.f133) (by kernel_rfl) (rs:=[.cell 4 94]) (by kernel_rfl) (fa:={ loops:=[],cuts:=[],orders:=[(3,((List.range' 0 8),[[],[0],[],[],[3],[2,3,4],[0,1,2,3,4,5],[0,1,2,3,4,5,6]]))] })
  (cfg:={ n:=19,own:=[2,3,4],lim:=none,fns:=[135,136,152],wr:=[] }) (args:=[.agg #[.bool a,.slice b d e,.bool f,.slice g i j],.agg #[.bool k,.slice l m o]]) (by kernel_rfl) (Bodies.cons Tryz.call135 (Bodies.cons Tryz.call136 (Bodies.cons Tryz.call152 Bodies.nil))) (Eq.mp (by kernel_rfl:RScaled Tryz.prog a b d e f g i j k l m o h K=_) hvc)
def MHasShape(P:Program)(a:Int)(b:Int)(d:OA)(c e:Nat)(h:Heap)(K:Value->Heap->Prop):Prop:=
 Br (decide ((1:Int)<=a)) (Br (decide (a<=(64:Int))) (Br (decide ((1:Int)<=b)) (Br (decide (b<=(64:Int))) (K (.bool ((c:Int)==(wi64 (a*b)))) h)
 (K (.bool false) h))
 (K (.bool false) h))
 (K (.bool false) h))
 (K (.bool false) h)
theorem MHasShape_ok(a:Int)(b:Int)(d:OA)(e f:Nat)(hvc:MHasShape Tryz.prog a b d e f h K):FCall Tryz.prog f_MHasShape #[.agg #[I a,I b,.slice d e f]] h K:=
 fn_sound Tryz.func108 (c:=codeOf Tryz.f108) (by kernel_rfl) (rs:=[.tmp 2]) (by kernel_rfl) (fa:={ loops:=[],cuts:=[],orders:=[] })
  (cfg:={ n:=32,own:=[1],lim:=none,fns:=[],wr:=[] }) (args:=[.agg #[I a,I b,.slice d e f]]) (by kernel_rfl) Bodies.nil (Eq.mp (by kernel_rfl:MHasShape Tryz.prog a b d e f h K=_) hvc)
def MRead(P:Program)(k:Int)(l:Int)(a:OA)(b c:Nat)(h:Heap)(K:Value->Heap->Prop):Prop:=
 FCall P f_MHasShape #[.agg #[I k,I l,.slice a b c]] h (fun m j=>∃ (d:Bool),m= .bool d/\Br (!d) (K (.tuple #[.slice none 0 0,.bool false]) j)
 (FCall P f_TReadAll #[.slice a b c] j (fun n o=>∃ (e:OA) (f g:Nat) (i:Bool),n= .tuple #[.slice e f g,.bool i]/\K (.tuple #[.slice e f g,.bool i]) o)))
theorem MRead_ok(a:Int)(b:Int)(d:OA)(e f:Nat)(hvc:MRead Tryz.prog a b d e f h K):FCall Tryz.prog f_MRead #[.agg #[I a,I b,.slice d e f]] h K:=
 fn_sound Tryz.func67 (c:=codeOf Tryz.f67) (by kernel_rfl) (rs:=[.tmp 2,.tmp 3]) (by kernel_rfl) (fa:={ loops:=[],cuts:=[],orders:=[] })
  (cfg:={ n:=12,own:=[1],lim:=none,fns:=[79,108],wr:=[] }) (args:=[.agg #[I a,I b,.slice d e f]]) (by kernel_rfl) (Bodies.cons Tryz.call79 (Bodies.cons Tryz.call108 Bodies.nil)) (Eq.mp (by kernel_rfl:MRead Tryz.prog a b d e f h K=_) hvc)
def MWrite(P:Program)(d:Int)(e:Int)(f:OA)(g i:Nat)(h:Heap)(K:Value->Heap->Prop):Prop:=
 FCall P f_TStrings #[.slice f g i] h (fun j k=>∃ (a:OA) (b c:Nat),j= .slice a b c/\K (.agg #[I d,I e,.slice a b c]) k)
theorem MWrite_ok(a:Int)(b:Int)(d:OA)(e f:Nat)(hvc:MWrite Tryz.prog a b d e f h K):FCall Tryz.prog f_MWrite #[I a,I b,.slice d e f] h K:=
 fn_sound Tryz.func71 (c:=codeOf Tryz.f71) (by kernel_rfl) (rs:=[.cell 6 24]) (by kernel_rfl) (fa:={ loops:=[],cuts:=[],orders:=[] })
  (cfg:={ n:=12,own:=[6],lim:=none,fns:=[81],wr:=[] }) (args:=[I a,I b,.slice d e f]) (by kernel_rfl) (Bodies.cons Tryz.call81 Bodies.nil) (Eq.mp (by kernel_rfl:MWrite Tryz.prog a b d e f h K=_) hvc)
def MMul(P:Program)(q:Int)(c:Int)(c9:OA)(d0 d1:Nat)(j:Int)(k:Int)(d2:OA)(d3 d4:Nat)(h:Heap)(K:Value->Heap->Prop):Prop:=
 FCall P f_MRead #[.agg #[I q,I c,.slice c9 d0 d1]] h (fun d7 d8=>∃ (z:OA) (A B:Nat) (C:Bool),d7= .tuple #[.slice z A B,.bool C]/\FCall P f_MRead #[.agg #[I j,I k,.slice d2 d3 d4]] d8 (fun d9 o=>∃ (D:OA) (E F:Nat) (G:Bool),d9= .tuple #[.slice D E F,.bool G]/\Br (!C) (K (.tuple #[.agg #[I 0,I 0,.slice none 0 0],I 1]) o)
 (Br (!G) (K (.tuple #[.agg #[I 0,I 0,.slice none 0 0],I 1]) o)
 (Br (c != j) (K (.tuple #[.agg #[I 0,I 0,.slice none 0 0],I 4]) o)
 (FCall P f_MVectors #[.slice z A B,I c] o (fun e0 c6=>∃ (H:OA) (r d5:Nat),e0= .slice H r d5/\FCall P f_MTransposeQ #[.slice D E F,I j,I k] c6 (fun e1 y=>∃ (J:OA) (L M:Nat),e1= .slice J L M/\Heap.le c6 y/\FCall P f_MVectors #[.slice J L M,I j] y (fun e2 c7=>∃ (N:OA) (s d6:Nat),e2= .slice N s d6/\Heap.le y c7/\wpH P (Instr.makeSlice 87 (I 0) (I (wi64 (q*k)))) (fun e3 e4=>∃ (O:OA) (Q R:Nat),e3= .slice O Q R/\∃ (t:List Value->Heap->Prop) (S:List Value->Heap->Nat),t [.slice O Q R,I 0] e4/\
 ∀ (l:OA) (m n:Nat) (a:Int),∀ e,t [.slice l m n,I a] e->Br (decide (a<(r:Int))) (∃ p,H=some p/\0<=a/\a<(r:Int)/\∃ (T:OA) (V W:Nat) (X:Bool) (Z:OA) (a0 a1:Nat),e.cell? (Addr.add (p.add (a.toNat*3)) 0)=some (.slice T V W)/\e.cell? (Addr.add (p.add (a.toNat*3)) 1)=some (.bool X)/\e.cell? (Addr.add (p.add (a.toNat*3)) 2)=some (.slice Z a0 a1)/\∃ (u:List Value->Heap->Prop) (a2:List Value->Heap->Nat),u [.slice l m n,I 0] e/\
 ∀ (f:OA) (g i:Nat) (b:Int),∀ d,u [.slice f g i,I b] d->Br (decide (b<(s:Int))) (∃ c,N=some c/\0<=b/\b<(s:Int)/\∃ (a3:OA) (a4 a5:Nat) (a6:Bool) (a7:OA) (a8 a9:Nat),d.cell? (Addr.add (c.add (b.toNat*3)) 0)=some (.slice a3 a4 a5)/\d.cell? (Addr.add (c.add (b.toNat*3)) 1)=some (.bool a6)/\d.cell? (Addr.add (c.add (b.toNat*3)) 2)=some (.slice a7 a8 a9)/\FCall P f_MTimes #[.agg #[.slice T V W,.bool X,.slice Z a0 a1],.agg #[.slice a3 a4 a5,.bool a6,.slice a7 a8 a9]] d (fun e5 e6=>∃ (b0:Bool) (b1:OA) (b2 b3:Nat) (b4:Bool) (b5:OA) (b6 b7:Nat),e5= .agg #[.bool b0,.slice b1 b2 b3,.bool b4,.slice b5 b6 b7]/\wpH P (Instr.buildSlice 87 1 #[(0,.agg #[.bool b0,.slice b1 b2 b3,.bool b4,.slice b5 b6 b7])]) (fun e7 e8=>∃ (b8:OA) (b9 c0:Nat),e7= .slice b8 b9 c0/\wpH P (Builtin.append_ #[87,87] 87 #[.slice f g i,.slice b8 b9 c0]) (fun e9 c8=>∃ (v:OA) (w x:Nat),e9= .slice v w x/\u [.slice v w x,I (wi64 (b+1))] c8/\a2 [.slice v w x,I (wi64 (b+1))] c8<a2 [.slice f g i,I b] d) e8) e6))
 (t [.slice f g i,I (wi64 (a+1))] d/\S [.slice f g i,I (wi64 (a+1))] d<S [.slice l m n,I a] e))
 (FCall P f_MWrite #[I q,I k,.slice l m n] e (fun f0 f1=>∃ (c1:Int) (c2:Int) (c3:OA) (c4 c5:Nat),f0= .agg #[I c1,I c2,.slice c3 c4 c5]/\K (.tuple #[.agg #[I c1,I c2,.slice c3 c4 c5],I 0]) f1))) c7))))))))
theorem MMul_ok(a:Int)(b:Int)(d:OA)(e f:Nat)(g:Int)(i:Int)(j:OA)(k l:Nat)(hvc:MMul Tryz.prog a b d e f g i j k l h K):FCall Tryz.prog f_MMul #[.agg #[I a,I b,.slice d e f],.agg #[I g,I i,.slice j k l]] h K:=
 fn_sound Tryz.func33 (c:=codeOf Tryz.f33) (by kernel_rfl) (rs:=[.cell 4 24,.tmp 5]) (by kernel_rfl) (fa:={ loops:=[(11,{ slots:=[12,61],owns:=[],zs:=[.slice none 0 0,.int .i64 0],lim:={ slots:=([12,14,16]++List.range' 61 18),keys:=[14,16] } }),(14,{ slots:=[12,67],owns:=[],zs:=[.slice none 0 0,.int .i64 0],lim:={ slots:=([12,16]++List.range' 67 11),keys:=[16] } })],cuts:=[],orders:=[(8,([0,1,2,3,4,6,7,5,8,9],[[],[],[1],[],[3],[0,1,2,3,4],[],[6],(List.range' 0 8),(List.range' 0 9)]))] })
  (cfg:={ n:=85,own:=[2,3,4,14,16],lim:=none,fns:=[67,71,82,91,92],wr:=[] }) (args:=[.agg #[I a,I b,.slice d e f],.agg #[I g,I i,.slice j k l]]) (by kernel_rfl) (Bodies.cons Tryz.call67 (Bodies.cons Tryz.call71 (Bodies.cons Tryz.call82 (Bodies.cons Tryz.call91 (Bodies.cons Tryz.call92 Bodies.nil))))) (Eq.mp (by kernel_rfl:MMul Tryz.prog a b d e f g i j k l h K=_) hvc)
def MApply(P:Program)(o:Int)(i:Int)(a9:OA)(b0 b1:Nat)(b2:OA)(p b3:Nat)(h:Heap)(K:Value->Heap->Prop):Prop:=
 FCall P f_MRead #[.agg #[I o,I i,.slice a9 b0 b1]] h (fun b5 b6=>∃ (q:OA) (r s:Nat) (t:Bool),b5= .tuple #[.slice q r s,.bool t]/\FCall P f_TReadAll #[.slice b2 p b3] b6 (fun b7 f=>∃ (u:OA) (v w:Nat) (x:Bool),b7= .tuple #[.slice u v w,.bool x]/\Br (!t) (K (.tuple #[.slice none 0 0,I 1]) f)
 (Br (!x) (K (.tuple #[.slice none 0 0,I 1]) f)
 (Br ((p:Int) != i) (K (.tuple #[.slice none 0 0,I 4]) f)
 (FCall P f_MNewVector #[.slice u v w] f (fun b8 b9=>∃ (y:OA) (z A:Nat) (B:Bool) (C:OA) (D E:Nat),b8= .agg #[.slice y z A,.bool B,.slice C D E]/\wpH P (Instr.makeSlice 22 (I 0) (I o)) (fun c0 c1=>∃ (F:OA) (G H:Nat),c0= .slice F G H/\FCall P f_MVectors #[.slice q r s,I i] c1 (fun c2 c3=>∃ (J:OA) (j b4:Nat),c2= .slice J j b4/\∃ (k:List Value->Heap->Prop) (L:List Value->Heap->Nat),k [.slice F G H,I 0] c3/\
 ∀ (c:OA) (d e:Nat) (a:Int),∀ b,k [.slice c d e,I a] b->Br (decide (a<(j:Int))) (∃ g,J=some g/\0<=a/\a<(j:Int)/\∃ (M:OA) (N O:Nat) (Q:Bool) (R:OA) (S T:Nat),b.cell? (Addr.add (g.add (a.toNat*3)) 0)=some (.slice M N O)/\b.cell? (Addr.add (g.add (a.toNat*3)) 1)=some (.bool Q)/\b.cell? (Addr.add (g.add (a.toNat*3)) 2)=some (.slice R S T)/\FCall P f_MTimes #[.agg #[.slice M N O,.bool Q,.slice R S T],.agg #[.slice y z A,.bool B,.slice C D E]] b (fun c4 c5=>∃ (V:Bool) (W:OA) (X Z:Nat) (a0:Bool) (a1:OA) (a2 a3:Nat),c4= .agg #[.bool V,.slice W X Z,.bool a0,.slice a1 a2 a3]/\FCall P f_RString #[.agg #[.bool V,.slice W X Z,.bool a0,.slice a1 a2 a3]] c5 (fun c6 c7=>∃ (a4:ByteArray),c6= .string a4/\wpH P (Instr.buildSlice 22 1 #[(0,.string a4)]) (fun c8 c9=>∃ (a5:OA) (a6 a7:Nat),c8= .slice a5 a6 a7/\wpH P (Builtin.append_ #[22,22] 22 #[.slice c d e,.slice a5 a6 a7]) (fun d0 a8=>∃ (l:OA) (m n:Nat),d0= .slice l m n/\k [.slice l m n,I (wi64 (a+1))] a8/\L [.slice l m n,I (wi64 (a+1))] a8<L [.slice c d e,I a] b) c9) c7)))
 (K (.tuple #[.slice c d e,I 0]) b))) b9))))))
theorem MApply_ok(a:Int)(b:Int)(d:OA)(e f:Nat)(g:OA)(i j:Nat)(hvc:MApply Tryz.prog a b d e f g i j h K):FCall Tryz.prog f_MApply #[.agg #[I a,I b,.slice d e f],.slice g i j] h K:=
 fn_sound Tryz.func35 (c:=codeOf Tryz.f35) (by kernel_rfl) (rs:=[.tmp 4,.tmp 5]) (by kernel_rfl) (fa:={ loops:=[(10,{ slots:=[11,45],owns:=[],zs:=[.slice none 0 0,.int .i64 0],lim:={ slots:=([11,13]++List.range' 45 12),keys:=[13] } })],cuts:=[],orders:=[] })
  (cfg:={ n:=58,own:=[2,10,13],lim:=none,fns:=[67,79,91,92,94,95],wr:=[] }) (args:=[.agg #[I a,I b,.slice d e f],.slice g i j]) (by kernel_rfl) (Bodies.cons Tryz.call67 (Bodies.cons Tryz.call79 (Bodies.cons Tryz.call91 (Bodies.cons Tryz.call92 (Bodies.cons Tryz.call94 (Bodies.cons Tryz.call95 Bodies.nil)))))) (Eq.mp (by kernel_rfl:MApply Tryz.prog a b d e f g i j h K=_) hvc)
def MNewVector(P:Program)(i:OA)(c z:Nat)(h:Heap)(K:Value->Heap->Prop):Prop:=
 (wpH P (Instr.makeSlice 97 (I (c:Int)) (I (c:Int))) (fun b5 x=>∃ (j:OA) (k A:Nat),b5= .slice j k A/\Heap.le h x/\FCall P f_TCommonDenominator #[.slice i c z] x (fun b6 a7=>∃ (l:Bool) (m:OA) (n o:Nat),b6= .agg #[.bool l,.slice m n o]/\Heap.le x a7/\∃ (p:List Value->Heap->Prop) (B:List Value->Heap->Nat),p [I 0] a7/\
 ∀ (a:Int),∀ d,p [I a] d->Br (decide (a<(c:Int))) (∃ f,i=some f/\0<=a/\a<(c:Int)/\∃ (C:Bool) (D:OA) (E F:Nat) (G:Bool) (H:OA) (J L:Nat),d.cell? (Addr.add (f.add (a.toNat*4)) 0)=some (.bool C)/\d.cell? (Addr.add (f.add (a.toNat*4)) 1)=some (.slice D E F)/\d.cell? (Addr.add (f.add (a.toNat*4)) 2)=some (.bool G)/\d.cell? (Addr.add (f.add (a.toNat*4)) 3)=some (.slice H J L)/\FCall P f_RScaled #[.agg #[.bool C,.slice D E F,.bool G,.slice H J L],.agg #[.bool l,.slice m n o]] d (fun b7 a8=>∃ (M:Bool) (N:OA) (O Q:Nat),b7= .agg #[.bool M,.slice N O Q]/\Heap.le d a8/\∃ b3,j=some b3/\0<=a/\a<(k:Int)/\wpH P (Instr.storeAt 94 (.pointer (some (b3.add (a.toNat*2)))) (.agg #[.bool M,.slice N O Q])) (fun _ a9=>p [I (wi64 (a+1))] a9/\B [I (wi64 (a+1))] a9<B [I a] d) a8))
 (K (.agg #[.slice j k A,.bool l,.slice m n o]) d))) h)/\(FCall P f_TCommonDenominator #[.slice i c z] h (fun b8 y=>∃ (q:Bool) (r:OA) (s t:Nat),b8= .agg #[.bool q,.slice r s t]/\Heap.le h y/\wpH P (Instr.makeSlice 97 (I (c:Int)) (I (c:Int))) (fun b9 b0=>∃ (u:OA) (v R:Nat),b9= .slice u v R/\Heap.le y b0/\∃ (w:List Value->Heap->Prop) (S:List Value->Heap->Nat),w [I 0] b0/\
 ∀ (b:Int),∀ e,w [I b] e->Br (decide (b<(c:Int))) (∃ g,i=some g/\0<=b/\b<(c:Int)/\∃ (T:Bool) (V:OA) (W X:Nat) (Z:Bool) (a0:OA) (a1 a2:Nat),e.cell? (Addr.add (g.add (b.toNat*4)) 0)=some (.bool T)/\e.cell? (Addr.add (g.add (b.toNat*4)) 1)=some (.slice V W X)/\e.cell? (Addr.add (g.add (b.toNat*4)) 2)=some (.bool Z)/\e.cell? (Addr.add (g.add (b.toNat*4)) 3)=some (.slice a0 a1 a2)/\FCall P f_RScaled #[.agg #[.bool T,.slice V W X,.bool Z,.slice a0 a1 a2],.agg #[.bool q,.slice r s t]] e (fun c0 b1=>∃ (a3:Bool) (a4:OA) (a5 a6:Nat),c0= .agg #[.bool a3,.slice a4 a5 a6]/\Heap.le e b1/\∃ b4,u=some b4/\0<=b/\b<(v:Int)/\wpH P (Instr.storeAt 94 (.pointer (some (b4.add (b.toNat*2)))) (.agg #[.bool a3,.slice a4 a5 a6])) (fun _ b2=>w [I (wi64 (b+1))] b2/\S [I (wi64 (b+1))] b2<S [I b] e) b1))
 (K (.agg #[.slice u v R,.bool q,.slice r s t]) e)) y))
theorem MNewVector_ok(a:OA)(b d:Nat)(hvc:MNewVector Tryz.prog a b d h K):FCall Tryz.prog f_MNewVector #[.slice a b d] h K:=
 fn_sound Tryz.func94 (c:=codeOf Tryz.f94) (by kernel_rfl) (rs:=[.cell 2 126]) (by kernel_rfl) (fa:={ loops:=[(3,{ slots:=[14],owns:=[],zs:=[.int .i64 0],lim:={ slots:=([4,5]++List.range' 14 14),keys:=[5] } })],cuts:=[],orders:=[(1,([0,1,3,6,2,4,5,7],[[],[0],[0,1],[],[3],[0,1,2,3,4],[],[0,1,2,3,4,5,6]])),(5,((List.range' 0 9),[[],[0],[],[],[],[4],[3,4,5],[0,1,2,3,4,5,6],(List.range' 0 8)]))],alts:=[(1,[(2,[4])])] })
  (cfg:={ n:=29,own:=[2,3,5],lim:=none,fns:=[132,133],wr:=[] }) (args:=[.slice a b d]) (by kernel_rfl) (Bodies.cons Tryz.call132 (Bodies.cons Tryz.call133 Bodies.nil)) (Eq.mp (by kernel_rfl:MNewVector Tryz.prog a b d h K=_) hvc)
def MVectors(P:Program)(D:OA)(E F:Nat)(G:Int)(h:Heap)(K:Value->Heap->Prop):Prop:=
 wpH P (Instr.alloc 123 true (.tuple #[])) (fun L M=>∃ (a:Addr),L= .pointer (some a)/\FCall P f_MChunk #[.slice D E F,I G] M (fun N O=>∃ (d:Value),N=d/\RangeF P (d) O (fun (H:List Value) (b:Heap) (J:Heap->Prop)=>∃ (e:OA) (f g:Nat),H=[.slice e f g]/\∃ (i:OA) (j k:Nat),b.cell? a=some (.slice i j k)/\FCall P f_MNewVector #[.slice e f g] b (fun Q c=>∃ (l:OA) (m n:Nat) (o:Bool) (p:OA) (q r:Nat),Q= .agg #[.slice l m n,.bool o,.slice p q r]/\Heap.le b c/\wpH P (Instr.buildSlice 123 1 #[(0,.agg #[.slice l m n,.bool o,.slice p q r])]) (fun R B=>∃ (s:OA) (t u:Nat),R= .slice s t u/\Heap.le c B/\wpH P (Builtin.append_ #[123,123] 123 #[.slice i j k,.slice s t u]) (fun S T=>∃ (v:OA) (w x:Nat),S= .slice v w x/\wpH P (Instr.storeAt 123 (.pointer (some a)) (.slice v w x)) (fun _ V=>J V) T) B) c))
 (fun C=>∃ (y:OA) (z A:Nat),C.cell? a=some (.slice y z A)/\K (.slice y z A) C))) h
theorem MVectors_ok(a:OA)(b d:Nat)(e:Int)(hvc:MVectors Tryz.prog a b d e h K):FCall Tryz.prog f_MVectors #[.slice a b d,I e] h K:=
 fn_sound Tryz.func91 (c:=codeOf Tryz.f91) (by kernel_rfl) (rs:=[.tmp 4]) (by kernel_rfl) (fa:={ loops:=[],cuts:=[],orders:=[(4,([0,1,2,3,4,5],[[],[],[1],[1,2],[0,1,2,3],[0,1,2,3,4]]))],rounds:=[(4,[.slice none 0 0])] })
  (cfg:={ n:=17,own:=[],lim:=none,fns:=[94,131],wr:=[1000000000] }) (args:=[.slice a b d,I e]) (by kernel_rfl) (Bodies.cons Tryz.call94 (Bodies.cons Tryz.call131 Bodies.nil)) (Eq.mp (by kernel_rfl:MVectors Tryz.prog a b d e h K=_) hvc)
def MReduce(P:Program)(l:Int)(c:Int)(W:OA)(X Z:Nat)(h:Heap)(K:Value->Heap->Prop):Prop:=
 FCall P f_MRead #[.agg #[I l,I c,.slice W X Z]] h (fun a2 Q=>∃ (d:OA) (e f:Nat) (m:Bool),a2= .tuple #[.slice d e f,.bool m]/\Br (!m) (K (.tuple #[.agg #[I 0,I 0,.slice none 0 0],.slice none 0 0,I 1]) Q)
 (FCall P f_MNewTable #[.slice d e f,I c] Q (fun a3 a4=>∃ (g:OA),a3= .pointer g/\FCall P f_BReduce #[.pointer g,I c] a4 (fun a5 R=>∃ (n:OA) (o p:Nat) (q:Bool) (r:OA) (s t:Nat) (a0:Int),a5= .tuple #[.slice n o p,.agg #[.bool q,.slice r s t],I a0]/\∃ T,g=some T/\∃ (u:OA) (i a1:Nat),R.cell? (T.add 1)=some (.slice u i a1)/\∃ (j:List Value->Heap->Prop) (v:List Value->Heap->Nat),j [I 0] R/\
 ∀ (a:Int),∀ b,j [I a] b->Br (decide (a<(i:Int))) (∃ k,u=some k/\0<=a/\a<(i:Int)/\∃ (w:Bool) (x:OA) (y z:Nat),b.cell? (Addr.add (k.add (a.toNat*2)) 0)=some (.bool w)/\b.cell? (Addr.add (k.add (a.toNat*2)) 1)=some (.slice x y z)/\FCall P f_TFraction #[.agg #[.bool w,.slice x y z],.agg #[.bool q,.slice r s t]] b (fun a6 a7=>∃ (A:Bool) (B:OA) (C D:Nat) (E:Bool) (F:OA) (G H:Nat),a6= .agg #[.bool A,.slice B C D,.bool E,.slice F G H]/\∃ V,d=some V/\0<=a/\a<(e:Int)/\wpH P (Instr.storeAt 101 (.pointer (some (V.add (a.toNat*4)))) (.agg #[.bool A,.slice B C D,.bool E,.slice F G H])) (fun _ S=>j [I (wi64 (a+1))] S/\v [I (wi64 (a+1))] S<v [I a] b) a7))
 (FCall P f_MWrite #[I l,I c,.slice d e f] b (fun a8 a9=>∃ (J:Int) (L:Int) (M:OA) (N O:Nat),a8= .agg #[I J,I L,.slice M N O]/\K (.tuple #[.agg #[I J,I L,.slice M N O],.slice n o p,I 0]) a9))))))
theorem MReduce_ok(a:Int)(b:Int)(d:OA)(e f:Nat)(hvc:MReduce Tryz.prog a b d e f h K):FCall Tryz.prog f_MReduce #[.agg #[I a,I b,.slice d e f]] h K:=
 fn_sound Tryz.func15 (c:=codeOf Tryz.f15) (by kernel_rfl) (rs:=[.cell 2 24,.tmp 3,.tmp 4]) (by kernel_rfl) (fa:={ loops:=[(7,{ slots:=[38],owns:=[],zs:=[.int .i64 0],lim:={ slots:=([11,12]++List.range' 38 12),keys:=[12] } })],cuts:=[],orders:=[] })
  (cfg:={ n:=57,own:=[1,2,9,12],lim:=none,fns:=[67,68,69,70,71],wr:=[69] }) (args:=[.agg #[I a,I b,.slice d e f]]) (by kernel_rfl) (Bodies.cons Tryz.call67 (Bodies.cons Tryz.call68 (Bodies.cons Tryz.call69 (Bodies.cons Tryz.call70 (Bodies.cons Tryz.call71 Bodies.nil))))) (Eq.mp (by kernel_rfl:MReduce Tryz.prog a b d e f h K=_) hvc)
def MDet(P:Program)(n:Int)(d:Int)(d0:OA)(d1 d2:Nat)(h:Heap)(K:Value->Heap->Prop):Prop:=
 FCall P f_MRead #[.agg #[I n,I d,.slice d0 d1 d2]] h (fun d6 J=>∃ (M:OA) (N O:Nat) (Q:Bool),d6= .tuple #[.slice M N O,.bool Q]/\Br (!Q) (K (.tuple #[.string ({ data:=#[] }:ByteArray),I 1]) J)
 (Br (n != d) (K (.tuple #[.string ({ data:=#[] }:ByteArray),I 4]) J)
 (FCall P f_MNewTable #[.slice M N O,I d] J (fun d7 d8=>∃ (o:OA),d7= .pointer o/\FCall P f_BReduce #[.pointer o,I d] d8 (fun d9 c6=>∃ (d3:OA) (R d4:Nat) (S:Bool) (T:OA) (V W:Nat) (X:Int),d9= .tuple #[.slice d3 R d4,.agg #[.bool S,.slice T V W],I X]/\Br (decide ((R:Int)<n)) (K (.tuple #[.string ({ data:=#[48] }:ByteArray),I 0]) c6)
 (FCall P f_TWhole #[.agg #[.bool S,.slice T V W]] c6 (fun e0 c7=>∃ (p:Bool) (q:OA) (r s:Nat) (t:Bool) (u:OA) (v w:Nat),e0= .agg #[.bool p,.slice q r s,.bool t,.slice u v w]/\∃ (x:List Value->Heap->Prop),(Br (decide (X<(0:Int))) (FCall P f_RNeg #[.agg #[.bool p,.slice q r s,.bool t,.slice u v w]] c7 (fun e1 e2=>∃ (Z:Bool) (a0:OA) (a1 a2:Nat) (a3:Bool) (a4:OA) (a5 a6:Nat),e1= .agg #[.bool Z,.slice a0 a1 a2,.bool a3,.slice a4 a5 a6]/\x [.bool Z,.slice a0 a1 a2,.bool a3,.slice a4 a5 a6] e2))
 (x [.bool p,.slice q r s,.bool t,.slice u v w] c7))/\
 ∀ (a7:Bool) (a8:OA) (a9 b0:Nat) (b1:Bool) (b2:OA) (b3 b4:Nat),∀ L,x [.bool a7,.slice a8 a9 b0,.bool b1,.slice b2 b3 b4] L->∃ c9,o=some c9/\∃ (b5:OA) (y d5:Nat),L.cell? (c9.add 2)=some (.slice b5 y d5)/\∃ (z:List Value->Heap->Prop) (b6:List Value->Heap->Nat),z [I 0,.bool a7,.slice a8 a9 b0,.bool b1,.slice b2 b3 b4] L/\
 ∀ (a:Int) (e:Bool) (f:OA) (g i:Nat) (j:Bool) (k:OA) (l m:Nat),∀ b,z [I a,.bool e,.slice f g i,.bool j,.slice k l m] b->Br (decide (a<(y:Int))) (∃ c,b5=some c/\0<=a/\a<(y:Int)/\∃ (b7:Bool) (b8:OA) (b9 c0:Nat) (c1:Bool) (c2:OA) (c3 c4:Nat),b.cell? (Addr.add (c.add (a.toNat*4)) 0)=some (.bool b7)/\b.cell? (Addr.add (c.add (a.toNat*4)) 1)=some (.slice b8 b9 c0)/\b.cell? (Addr.add (c.add (a.toNat*4)) 2)=some (.bool c1)/\b.cell? (Addr.add (c.add (a.toNat*4)) 3)=some (.slice c2 c3 c4)/\FCall P f_RDiv #[.agg #[.bool e,.slice f g i,.bool j,.slice k l m],.agg #[.bool b7,.slice b8 b9 c0,.bool c1,.slice c2 c3 c4]] b (fun e3 c8=>∃ (A:Bool) (B:OA) (C D:Nat) (E:Bool) (F:OA) (G H:Nat),e3= .agg #[.bool A,.slice B C D,.bool E,.slice F G H]/\z [I (wi64 (a+1)),.bool A,.slice B C D,.bool E,.slice F G H] c8/\b6 [I (wi64 (a+1)),.bool A,.slice B C D,.bool E,.slice F G H] c8<b6 [I a,.bool e,.slice f g i,.bool j,.slice k l m] b))
 (FCall P f_RString #[.agg #[.bool e,.slice f g i,.bool j,.slice k l m]] b (fun e4 e5=>∃ (c5:ByteArray),e4= .string c5/\K (.tuple #[.string c5,I 0]) e5)))))))))
theorem MDet_ok(a:Int)(b:Int)(d:OA)(e f:Nat)(hvc:MDet Tryz.prog a b d e f h K):FCall Tryz.prog f_MDet #[.agg #[I a,I b,.slice d e f]] h K:=
 fn_sound Tryz.func37 (c:=codeOf Tryz.f37) (by kernel_rfl) (rs:=[.tmp 2,.tmp 3]) (by kernel_rfl) (fa:={ loops:=[(14,{ slots:=[53],owns:=[(10,4)],zs:=[.int .i64 0,.bool false,.slice none 0 0,.bool false,.slice none 0 0],lim:={ slots:=([12]++List.range' 53 8),keys:=[10,12] } })],cuts:=[(13,{ slots:=[],owns:=[(10,4)],zs:=[.bool false,.slice none 0 0,.bool false,.slice none 0 0],lim:={ slots:=[44,45,46,47],keys:=[10] } })],orders:=[] })
  (cfg:={ n:=63,own:=[1,8,10,12],lim:=none,fns:=[67,68,69,95,96,97,98],wr:=[69] }) (args:=[.agg #[I a,I b,.slice d e f]]) (by kernel_rfl) (Bodies.cons Tryz.call67 (Bodies.cons Tryz.call68 (Bodies.cons Tryz.call69 (Bodies.cons Tryz.call95 (Bodies.cons Tryz.call96 (Bodies.cons Tryz.call97 (Bodies.cons Tryz.call98 Bodies.nil))))))) (Eq.mp (by kernel_rfl:MDet Tryz.prog a b d e f h K=_) hvc)
def MTransposeQ(P:Program)(M:OA)(s V:Nat)(N:Int)(d:Int)(h:Heap)(K:Value->Heap->Prop):Prop:=
 wpH P (Instr.makeSlice 87 (I 0) (I (s:Int))) (fun O Q=>∃ (t:OA) (u v:Nat),O= .slice t u v/\∃ (n:List Value->Heap->Prop) (w:List Value->Heap->Nat),n [.slice t u v,I 0] Q/\
 ∀ (j:OA) (k l:Nat) (a:Int),∀ m,n [.slice j k l,I a] m->Br (decide (a<d)) (∃ (o:List Value->Heap->Prop) (x:List Value->Heap->Nat),o [.slice j k l,I 0] m/\
 ∀ (e:OA) (f g:Nat) (b:Int),∀ c,o [.slice e f g,I b] c->Br (decide (b<N)) (∃ i,M=some i/\0<=wi64 ((wi64 (b*d))+a)/\wi64 ((wi64 (b*d))+a)<(s:Int)/\∃ (y:Bool) (z:OA) (A B:Nat) (C:Bool) (D:OA) (E F:Nat),c.cell? (Addr.add (i.add ((wi64 ((wi64 (b*d))+a)).toNat*4)) 0)=some (.bool y)/\c.cell? (Addr.add (i.add ((wi64 ((wi64 (b*d))+a)).toNat*4)) 1)=some (.slice z A B)/\c.cell? (Addr.add (i.add ((wi64 ((wi64 (b*d))+a)).toNat*4)) 2)=some (.bool C)/\c.cell? (Addr.add (i.add ((wi64 ((wi64 (b*d))+a)).toNat*4)) 3)=some (.slice D E F)/\wpH P (Instr.buildSlice 87 1 #[(0,.agg #[.bool y,.slice z A B,.bool C,.slice D E F])]) (fun R S=>∃ (G:OA) (H J:Nat),R= .slice G H J/\wpH P (Builtin.append_ #[87,87] 87 #[.slice e f g,.slice G H J]) (fun T L=>∃ (p:OA) (q r:Nat),T= .slice p q r/\o [.slice p q r,I (wi64 (b+1))] L/\x [.slice p q r,I (wi64 (b+1))] L<x [.slice e f g,I b] c) S) c)
 (n [.slice e f g,I (wi64 (a+1))] c/\w [.slice e f g,I (wi64 (a+1))] c<w [.slice j k l,I a] m))
 (K (.slice j k l) m)) h
theorem MTransposeQ_ok(a:OA)(b d:Nat)(e:Int)(f:Int)(hvc:MTransposeQ Tryz.prog a b d e f h K):FCall Tryz.prog f_MTransposeQ #[.slice a b d,I e,I f] h K:=
 fn_sound Tryz.func82 (c:=codeOf Tryz.f82) (by kernel_rfl) (rs:=[.tmp 6]) (by kernel_rfl) (fa:={ loops:=[(3,{ slots:=[7,14],owns:=[],zs:=[.slice none 0 0,.int .i64 0],lim:={ slots:=([7,8,9]++List.range' 14 20),keys:=[] } }),(6,{ slots:=[7,18],owns:=[],zs:=[.slice none 0 0,.int .i64 0],lim:={ slots:=([7,9]++List.range' 18 15),keys:=[] } })],cuts:=[],orders:=[] })
  (cfg:={ n:=35,own:=[],lim:=none,fns:=[],wr:=[] }) (args:=[.slice a b d,I e,I f]) (by kernel_rfl) Bodies.nil (Eq.mp (by kernel_rfl:MTransposeQ Tryz.prog a b d e f h K=_) hvc)
def MTimes(P:Program)(N:OA)(j a7:Nat)(O:Bool)(Q:OA)(R S:Nat)(T:OA)(V a8:Nat)(W:Bool)(X:OA)(Z a0:Nat)(h:Heap)(K:Value->Heap->Prop):Prop:=
 wpH P (Instr.alloc 185 true (.tuple #[])) (fun a1 a2=>∃ (c:Addr),a1= .pointer (some c)/\∃ (d:List Value->Heap->Prop) (k:List Value->Heap->Nat),d [I 0] a2/\
 ∀ (a:Int),∀ b,d [I a] b->Br (decide (a<(j:Int))) (∃ g,N=some g/\0<=a/\a<(j:Int)/\∃ (l:Bool) (m:OA) (n o:Nat),b.cell? (Addr.add (g.add (a.toNat*2)) 0)=some (.bool l)/\b.cell? (Addr.add (g.add (a.toNat*2)) 1)=some (.slice m n o)/\∃ i,T=some i/\0<=a/\a<(V:Int)/\∃ (p:Bool) (q:OA) (r s:Nat),b.cell? (Addr.add (i.add (a.toNat*2)) 0)=some (.bool p)/\b.cell? (Addr.add (i.add (a.toNat*2)) 1)=some (.slice q r s)/\FCall P f_SAddProduct #[.pointer (some c),.agg #[.bool l,.slice m n o],.agg #[.bool p,.slice q r s]] b (fun a3 L=>a3= .tuple #[]/\d [I (wi64 (a+1))] L/\k [I (wi64 (a+1))] L<k [I a] b))
 (FCall P f_SValue #[.pointer (some c)] b (fun a4 e=>∃ (t:Bool) (u:OA) (v w:Nat),a4= .agg #[.bool t,.slice u v w]/\Heap.le b e/\FCall P f_ZMul #[.agg #[.bool O,.slice Q R S],.agg #[.bool W,.slice X Z a0]] e (fun a5 f=>∃ (x:Bool) (y:OA) (z A:Nat),a5= .agg #[.bool x,.slice y z A]/\Heap.le e f/\FCall P f_TFraction #[.agg #[.bool t,.slice u v w],.agg #[.bool x,.slice y z A]] f (fun a6 M=>∃ (B:Bool) (C:OA) (D E:Nat) (F:Bool) (G:OA) (H J:Nat),a6= .agg #[.bool B,.slice C D E,.bool F,.slice G H J]/\Heap.le f M/\K (.agg #[.bool B,.slice C D E,.bool F,.slice G H J]) M))))) h
theorem MTimes_ok(a:OA)(b d:Nat)(e:Bool)(f:OA)(g i:Nat)(j:OA)(k l:Nat)(m:Bool)(o:OA)(p q:Nat)(hvc:MTimes Tryz.prog a b d e f g i j k l m o p q h K):FCall Tryz.prog f_MTimes #[.agg #[.slice a b d,.bool e,.slice f g i],.agg #[.slice j k l,.bool m,.slice o p q]] h K:=
 fn_sound Tryz.func92 (c:=codeOf Tryz.f92) (by kernel_rfl) (rs:=[.cell 4 101]) (by kernel_rfl) (fa:={ loops:=[(3,{ slots:=[11],owns:=[],zs:=[.int .i64 0],lim:={ slots:=([6,7]++List.range' 11 13),keys:=[7] } })],cuts:=[],orders:=[(5,([0,1,2,3,4,5,6],[[],[],[1],[],[1,2,3],[1,2,3,4],[0,1,2,3,4,5]])),(7,([1,2,3,4,0,5,6,7],[[],[],[1],[],[3],[0,1,2,3,4],[0,1,2,3,4,5],[0,1,2,3,4,5,6]]))] })
  (cfg:={ n:=31,own:=[2,3,4,7],lim:=none,fns:=[70,150,151,152],wr:=[150] }) (args:=[.agg #[.slice a b d,.bool e,.slice f g i],.agg #[.slice j k l,.bool m,.slice o p q]]) (by kernel_rfl) (Bodies.cons Tryz.call70 (Bodies.cons Tryz.call150 (Bodies.cons Tryz.call151 (Bodies.cons Tryz.call152 Bodies.nil)))) (Eq.mp (by kernel_rfl:MTimes Tryz.prog a b d e f g i j k l m o p q h K=_) hvc)
def MNewTable(P:Program)(m3:OA)(m4 m5:Nat)(b7:Int)(h:Heap)(K:Value->Heap->Prop):Prop:=
 wpH P (Instr.box 99 (.agg #[I b7,.slice none 0 0,.slice none 0 0])) (fun n1 n2=>∃ (b8:Addr),n1= .pointer (some b8)/\wpH P (Instr.alloc 90 true (.tuple #[])) (fun n3 n4=>∃ (b:Addr),n3= .pointer (some b)/\wpH P (Instr.storeAt 90 (.pointer (some b)) (.pointer (some b8))) (fun _ n5=>FCall P f_MChunk #[.slice m3 m4 m5,I b7] n5 (fun n6 n7=>∃ (b9:Value),n6=b9/\RangeF P (b9) n7 (fun (m6:List Value) (m7:Heap) (x:Heap->Prop)=>∃ (W:OA) (y c0:Nat),m6=[.slice W y c0]/\FCall P f_TCommonDenominator #[.slice W y c0] m7 (fun n8 b4=>∃ (z:Bool) (A:OA) (B C:Nat),n8= .agg #[.bool z,.slice A B C]/\∃ (c1:OA),b4.cell? b=some (.pointer c1)/\∃ l0,c1=some l0/\∃ (m8:OA) (f m9:Nat),b4.cell? (l0.add 1)=some (.slice m8 f m9)/\∃ (s:List Value->Heap->Prop) (q:List Value->Heap->Nat),s [I 0,.bool false,.slice none 0 0] b4/\
 ∀ (a:Int) (g:Bool) (i:OA) (j k:Nat),∀ e,s [I a,.bool g,.slice i j k] e->Br (decide (a<(y:Int))) (∃ w,W=some w/\0<=a/\a<(y:Int)/\∃ (c2:Bool) (c3:OA) (c4 c5:Nat) (c6:Bool) (c7:OA) (c8 c9:Nat),e.cell? (Addr.add (w.add (a.toNat*4)) 0)=some (.bool c2)/\e.cell? (Addr.add (w.add (a.toNat*4)) 1)=some (.slice c3 c4 c5)/\e.cell? (Addr.add (w.add (a.toNat*4)) 2)=some (.bool c6)/\e.cell? (Addr.add (w.add (a.toNat*4)) 3)=some (.slice c7 c8 c9)/\FCall P f_RScaled #[.agg #[.bool c2,.slice c3 c4 c5,.bool c6,.slice c7 c8 c9],.agg #[.bool z,.slice A B C]] e (fun n9 o0=>∃ (D:Bool) (E:OA) (F G:Nat),n9= .agg #[.bool D,.slice E F G]/\FCall P f_ZGCD #[.agg #[.bool g,.slice i j k],.agg #[.bool D,.slice E F G]] o0 (fun o1 p=>∃ (l:Bool) (m:OA) (n o:Nat),o1= .agg #[.bool l,.slice m n o]/\∃ (d0:OA),p.cell? b=some (.pointer d0)/\∃ l1,d0=some l1/\∃ (H:OA) (J L:Nat),p.cell? (l1.add 1)=some (.slice H J L)/\(∃ (d1:OA),p.cell? b=some (.pointer d1)/\wpH P (Instr.buildSlice 97 1 #[(0,.agg #[.bool D,.slice E F G])]) (fun o2 j8=>∃ (d2:OA) (d3 d4:Nat),o2= .slice d2 d3 d4/\Heap.le p j8/\wpH P (Builtin.append_ #[97,97] 97 #[.slice H J L,.slice d2 d3 d4]) (fun o3 o4=>∃ (d5:OA) (d6 d7:Nat),o3= .slice d5 d6 d7/\∃ l2,d1=some l2/\wpH P (Instr.storeAt 97 (.pointer (some (l2.add 1))) (.slice d5 d6 d7)) (fun _ j9=>s [I (wi64 (a+1)),.bool l,.slice m n o] j9/\q [I (wi64 (a+1)),.bool l,.slice m n o] j9<q [I a,.bool g,.slice i j k] e) o4) j8) p)/\(wpH P (Instr.buildSlice 97 1 #[(0,.agg #[.bool D,.slice E F G])]) (fun o5 S=>∃ (X:OA) (Z a0:Nat),o5= .slice X Z a0/\Heap.le p S/\(∃ (d8:OA),S.cell? b=some (.pointer d8)/\wpH P (Builtin.append_ #[97,97] 97 #[.slice H J L,.slice X Z a0]) (fun o6 o7=>∃ (d9:OA) (e0 e1:Nat),o6= .slice d9 e0 e1/\∃ l3,d8=some l3/\wpH P (Instr.storeAt 97 (.pointer (some (l3.add 1))) (.slice d9 e0 e1)) (fun _ k0=>s [I (wi64 (a+1)),.bool l,.slice m n o] k0/\q [I (wi64 (a+1)),.bool l,.slice m n o] k0<q [I a,.bool g,.slice i j k] e) o7) S)/\(wpH P (Builtin.append_ #[97,97] 97 #[.slice H J L,.slice X Z a0]) (fun o8 k1=>∃ (e2:OA) (e3 e4:Nat),o8= .slice e2 e3 e4/\∃ (e5:OA),k1.cell? b=some (.pointer e5)/\∃ l4,e5=some l4/\wpH P (Instr.storeAt 97 (.pointer (some (l4.add 1))) (.slice e2 e3 e4)) (fun _ k2=>s [I (wi64 (a+1)),.bool l,.slice m n o] k2/\q [I (wi64 (a+1)),.bool l,.slice m n o] k2<q [I a,.bool g,.slice i j k] e) k1) S)) p))))
 (∃ (a1:List Value->Heap->Prop),(FCall P f_ZIsZero #[.agg #[.bool g,.slice i j k]] e (fun o9 k3=>∃ (e6:Bool),o9= .bool e6/\Br e6 (FCall P f_WNew #[I 1] k3 (fun p0 p1=>∃ (e7:Bool) (e8:OA) (e9 f0:Nat),p0= .agg #[.bool e7,.slice e8 e9 f0]/\a1 [.bool e7,.slice e8 e9 f0] p1))
 (a1 [.bool g,.slice i j k] k3)))/\
 ∀ (M:Bool) (N:OA) (O Q:Nat),∀ V,a1 [.bool M,.slice N O Q] V->∃ (f1:OA),V.cell? b=some (.pointer f1)/\∃ l5,f1=some l5/\∃ (f2:OA) (R f3:Nat),V.cell? (l5.add 1)=some (.slice f2 R f3)/\(0<=(f:Int)/\(f:Int)<=(R:Int))/\∃ (a2:List Value->Heap->Prop) (f4:List Value->Heap->Nat),a2 [I 0] V/\
 ∀ (d:Int),∀ c,a2 [I d] c->Br (decide (d<((R-(((f:Int)).toNat):Nat):Int))) (∃ b6,cutA f2 f3 (((f:Int)).toNat) 2=some b6/\0<=d/\d<((R-(((f:Int)).toNat):Nat):Int)/\∃ (f5:Bool) (f6:OA) (f7 f8:Nat),c.cell? (Addr.add (b6.add (d.toNat*2)) 0)=some (.bool f5)/\c.cell? (Addr.add (b6.add (d.toNat*2)) 1)=some (.slice f6 f7 f8)/\∃ (f9:OA),c.cell? b=some (.pointer f9)/\∃ l6,f9=some l6/\∃ (g0:OA) (g1 n0:Nat),c.cell? (l6.add 1)=some (.slice g0 g1 n0)/\FCall P f_ZQuo #[.agg #[.bool f5,.slice f6 f7 f8],.agg #[.bool M,.slice N O Q]] c (fun p2 k4=>∃ (g2:Bool) (g3:OA) (g4 g5:Nat),p2= .agg #[.bool g2,.slice g3 g4 g5]/\Heap.le c k4/\∃ l7,g0=some l7/\0<=wi64 ((f:Int)+d)/\wi64 ((f:Int)+d)<(g1:Int)/\wpH P (Instr.storeAt 94 (.pointer (some (l7.add ((wi64 ((f:Int)+d)).toNat*2)))) (.agg #[.bool g2,.slice g3 g4 g5])) (fun _ k5=>a2 [I (wi64 (d+1))] k5/\f4 [I (wi64 (d+1))] k5<f4 [I d] c) k4))
 (∃ (g6:OA),c.cell? b=some (.pointer g6)/\∃ l8,g6=some l8/\∃ (t:OA) (u v:Nat),c.cell? (l8.add 2)=some (.slice t u v)/\(∃ (g7:OA),c.cell? b=some (.pointer g7)/\FCall P f_TFraction #[.agg #[.bool z,.slice A B C],.agg #[.bool M,.slice N O Q]] c (fun p3 b5=>∃ (g8:Bool) (g9:OA) (h0 h1:Nat) (h2:Bool) (h3:OA) (h4 h5:Nat),p3= .agg #[.bool g8,.slice g9 h0 h1,.bool h2,.slice h3 h4 h5]/\Heap.le c b5/\wpH P (Instr.buildSlice 87 1 #[(0,.agg #[.bool g8,.slice g9 h0 h1,.bool h2,.slice h3 h4 h5])]) (fun p4 k6=>∃ (h6:OA) (h7 h8:Nat),p4= .slice h6 h7 h8/\Heap.le b5 k6/\wpH P (Builtin.append_ #[87,87] 87 #[.slice t u v,.slice h6 h7 h8]) (fun p5 p6=>∃ (h9:OA) (i0 i1:Nat),p5= .slice h9 i0 i1/\∃ l9,g7=some l9/\wpH P (Instr.storeAt 87 (.pointer (some (l9.add 2))) (.slice h9 i0 i1)) (fun _ p7=>x p7) p6) k6) b5))/\(FCall P f_TFraction #[.agg #[.bool z,.slice A B C],.agg #[.bool M,.slice N O Q]] c (fun p8 r=>∃ (a3:Bool) (a4:OA) (a5 a6:Nat) (a7:Bool) (a8:OA) (a9 b0:Nat),p8= .agg #[.bool a3,.slice a4 a5 a6,.bool a7,.slice a8 a9 b0]/\Heap.le c r/\(∃ (i2:OA),r.cell? b=some (.pointer i2)/\wpH P (Instr.buildSlice 87 1 #[(0,.agg #[.bool a3,.slice a4 a5 a6,.bool a7,.slice a8 a9 b0])]) (fun p9 k7=>∃ (i3:OA) (i4 i5:Nat),p9= .slice i3 i4 i5/\Heap.le r k7/\wpH P (Builtin.append_ #[87,87] 87 #[.slice t u v,.slice i3 i4 i5]) (fun q0 q1=>∃ (i6:OA) (i7 i8:Nat),q0= .slice i6 i7 i8/\∃ m0,i2=some m0/\wpH P (Instr.storeAt 87 (.pointer (some (m0.add 2))) (.slice i6 i7 i8)) (fun _ q2=>x q2) q1) k7) r)/\(wpH P (Instr.buildSlice 87 1 #[(0,.agg #[.bool a3,.slice a4 a5 a6,.bool a7,.slice a8 a9 b0])]) (fun q3 T=>∃ (b1:OA) (b2 b3:Nat),q3= .slice b1 b2 b3/\Heap.le r T/\(∃ (i9:OA),T.cell? b=some (.pointer i9)/\wpH P (Builtin.append_ #[87,87] 87 #[.slice t u v,.slice b1 b2 b3]) (fun q4 q5=>∃ (j0:OA) (j1 j2:Nat),q4= .slice j0 j1 j2/\∃ m1,i9=some m1/\wpH P (Instr.storeAt 87 (.pointer (some (m1.add 2))) (.slice j0 j1 j2)) (fun _ q6=>x q6) q5) T)/\(wpH P (Builtin.append_ #[87,87] 87 #[.slice t u v,.slice b1 b2 b3]) (fun q7 k8=>∃ (j3:OA) (j4 j5:Nat),q7= .slice j3 j4 j5/\∃ (j6:OA),k8.cell? b=some (.pointer j6)/\∃ m2,j6=some m2/\wpH P (Instr.storeAt 87 (.pointer (some (m2.add 2))) (.slice j3 j4 j5)) (fun _ q8=>x q8) k8) T)) r)))))))
 (fun k9=>∃ (j7:OA),k9.cell? b=some (.pointer j7)/\K (.pointer j7) k9))) n4) n2) h
theorem MNewTable_ok(a:OA)(b d:Nat)(e:Int)(hvc:MNewTable Tryz.prog a b d e h K):FCall Tryz.prog f_MNewTable #[.slice a b d,I e] h K:=
 fn_sound Tryz.func68 (c:=codeOf Tryz.f68) (by kernel_rfl) (rs:=[.tmp 4]) (by kernel_rfl) (fa:={ loops:=[(8,{ slots:=[31],owns:=[(9,2)],zs:=[.int .i64 0,.bool false,.slice none 0 0],lim:={ slots:=([11,12]++List.range' 31 21),keys:=[9,11,12] } }),(17,{ slots:=[62],owns:=[],zs:=[.int .i64 0],lim:={ slots:=([13,14]++List.range' 62 17),keys:=[14] } })],cuts:=[(16,{ slots:=[],owns:=[(9,2)],zs:=[.bool false,.slice none 0 0],lim:={ slots:=[52,53,54],keys:=[9] } })],orders:=[(12,([1,2,3,4,5,0,6,7,8,9,10],[[],[],[1],[1,2],[1,2,3],[],[5],[1,2,3,4,5,6],(List.range' 0 8),(List.range' 0 9),(List.range' 0 10)])),(19,((List.range' 0 12),[[],[0],[0,1],[0,1,2],[],[],[4,5],[],[],[7,8],(List.range' 0 10),(List.range' 0 11)])),(21,([1,2,3,4,5,6,0,7,8,9,10,11,12],[[],[],[1],[1,2],[1,2,3],[],[],[5,6],[5,6,7],(List.range' 1 8),(List.range' 0 10),(List.range' 0 11),(List.range' 0 12)]))],alts:=[(12,[(0,[6,7])]),(21,[(0,[7,8,9])])],rounds:=[(4,[.slice none 0 0])] })
  (cfg:={ n:=92,own:=[7,9,11,12,14],lim:=none,fns:=[70,100,131,132,133,134,135,136],wr:=[1000000000] }) (args:=[.slice a b d,I e]) (by kernel_rfl) (Bodies.cons Tryz.call70 (Bodies.cons Tryz.call100 (Bodies.cons Tryz.call131 (Bodies.cons Tryz.call132 (Bodies.cons Tryz.call133 (Bodies.cons Tryz.call134 (Bodies.cons Tryz.call135 (Bodies.cons Tryz.call136 Bodies.nil)))))))) (Eq.mp (by kernel_rfl:MNewTable Tryz.prog a b d e h K=_) hvc)
def BRow(P:Program)(e:OA)(a:Int)(h:Heap)(K:Value->Heap->Prop):Prop:=
 ∃ g,e=some g/\∃ (f:OA) (k d:Nat),h.cell? (g.add 1)=some (.slice f k d)/\∃ i,e=some i/\∃ (b:Int),h.cell? (i.add 0)=some (I b)/\∃ j,e=some j/\∃ (c:Int),h.cell? (j.add 0)=some (I c)/\(0<=wi64 ((wi64 (a+1))*c)/\wi64 ((wi64 (a+1))*c)<=(d:Int))/\(0<=wi64 (a*b)/\wi64 (a*b)<=(((wi64 ((wi64 (a+1))*c)).toNat:Nat):Int))/\K (.slice (cutA f d ((wi64 (a*b)).toNat) 2) (((wi64 ((wi64 (a+1))*c)).toNat)-((wi64 (a*b)).toNat)) (d-((wi64 (a*b)).toNat))) h
theorem BRow_ok(a:OA)(b:Int)(hvc:BRow Tryz.prog a b h K):FCall Tryz.prog f_BRow #[.pointer a,I b] h K:=
 fn_sound Tryz.func76 (c:=codeOf Tryz.f76) (by kernel_rfl) (rs:=[.tmp 4]) (by kernel_rfl) (fa:={ loops:=[],cuts:=[],orders:=[(1,((List.range' 0 19),[[],[0],[0,1],[0,1,2],[],[],[5],[5,6],[5,6,7],[4,5,6,7,8],[],[10],[],[12],[12,13],[12,13,14],[10,11,12,13,14,15],(List.range' 0 17),(List.range' 0 18)]))] })
  (cfg:={ n:=23,own:=[],lim:=none,fns:=[],wr:=[] }) (args:=[.pointer a,I b]) (by kernel_rfl) Bodies.nil (Eq.mp (by kernel_rfl:BRow Tryz.prog a b h K=_) hvc)
def BSwap(P:Program)(e:OA)(c:Int)(d:Int)(h:Heap)(K:Value->Heap->Prop):Prop:=
 FCall P f_BRow #[.pointer e,I c] h (fun b6 b7=>∃ (j:OA) (i b0:Nat),b6= .slice j i b0/\FCall P f_BRow #[.pointer e,I d] b7 (fun b8 b9=>∃ (k:OA) (l b1:Nat),b8= .slice k l b1/\∃ (m:List Value->Heap->Prop) (p:List Value->Heap->Nat),m [I 0] b9/\
 ∀ (b:Int),∀ a,m [I b] a->Br (decide (b<(i:Int))) (∃ n,k=some n/\0<=b/\b<(l:Int)/\∃ (q:Bool) (r:OA) (s t:Nat),a.cell? (Addr.add (n.add (b.toNat*2)) 0)=some (.bool q)/\a.cell? (Addr.add (n.add (b.toNat*2)) 1)=some (.slice r s t)/\∃ o,j=some o/\0<=b/\b<(i:Int)/\∃ (u:Bool) (v:OA) (w x:Nat),a.cell? (Addr.add (o.add (b.toNat*2)) 0)=some (.bool u)/\a.cell? (Addr.add (o.add (b.toNat*2)) 1)=some (.slice v w x)/\∃ a2,j=some a2/\0<=b/\b<(i:Int)/\wpH P (Instr.storeAt 94 (.pointer (some (a2.add (b.toNat*2)))) (.agg #[.bool q,.slice r s t])) (fun _ c0=>∃ a3,k=some a3/\0<=b/\b<(l:Int)/\wpH P (Instr.storeAt 94 (.pointer (some (a3.add (b.toNat*2)))) (.agg #[.bool u,.slice v w x])) (fun _ a1=>m [I (wi64 (b+1))] a1/\p [I (wi64 (b+1))] a1<p [I b] a) c0) a)
 (∃ a4,e=some a4/\∃ (y:OA) (z b2:Nat),a.cell? (a4.add 2)=some (.slice y z b2)/\∃ a5,e=some a5/\∃ (A:OA) (B b3:Nat),a.cell? (a5.add 2)=some (.slice A B b3)/\∃ a6,e=some a6/\∃ (C:OA) (D b4:Nat),a.cell? (a6.add 2)=some (.slice C D b4)/\∃ f,C=some f/\0<=d/\d<(D:Int)/\∃ (E:Bool) (F:OA) (G H:Nat) (J:Bool) (L:OA) (M N:Nat),a.cell? (Addr.add (f.add (d.toNat*4)) 0)=some (.bool E)/\a.cell? (Addr.add (f.add (d.toNat*4)) 1)=some (.slice F G H)/\a.cell? (Addr.add (f.add (d.toNat*4)) 2)=some (.bool J)/\a.cell? (Addr.add (f.add (d.toNat*4)) 3)=some (.slice L M N)/\∃ a7,e=some a7/\∃ (O:OA) (Q b5:Nat),a.cell? (a7.add 2)=some (.slice O Q b5)/\∃ g,O=some g/\0<=c/\c<(Q:Int)/\∃ (R:Bool) (S:OA) (T V:Nat) (W:Bool) (X:OA) (Z a0:Nat),a.cell? (Addr.add (g.add (c.toNat*4)) 0)=some (.bool R)/\a.cell? (Addr.add (g.add (c.toNat*4)) 1)=some (.slice S T V)/\a.cell? (Addr.add (g.add (c.toNat*4)) 2)=some (.bool W)/\a.cell? (Addr.add (g.add (c.toNat*4)) 3)=some (.slice X Z a0)/\∃ a8,y=some a8/\0<=c/\c<(z:Int)/\wpH P (Instr.storeAt 101 (.pointer (some (a8.add (c.toNat*4)))) (.agg #[.bool E,.slice F G H,.bool J,.slice L M N])) (fun _ c1=>∃ a9,A=some a9/\0<=d/\d<(B:Int)/\wpH P (Instr.storeAt 101 (.pointer (some (a9.add (d.toNat*4)))) (.agg #[.bool R,.slice S T V,.bool W,.slice X Z a0])) (fun _ c2=>K (.tuple #[]) c2) c1) a)))
theorem BSwap_ok(a:OA)(b:Int)(d:Int)(hvc:BSwap Tryz.prog a b d h K):FCall Tryz.prog f_BSwap #[.pointer a,I b,I d] h K:=
 fn_sound Tryz.func102 (c:=codeOf Tryz.f102) (by kernel_rfl) (rs:=[]) (by kernel_rfl) (fa:={ loops:=[(2,{ slots:=[17],owns:=[],zs:=[.int .i64 0],lim:={ slots:=([8]++List.range' 17 18),keys:=[] } })],cuts:=[],orders:=[(4,((List.range' 0 16),[[],[],[],[],[],[],[4,5],[4,5,6],[],[],[8,9],[8,9,10],([0,1]++List.range' 4 8),([0,1]++List.range' 4 9),(List.range' 0 14),(List.range' 0 15)])),(6,((List.range' 0 28),[[],[0],[0,1],[0,1,2],[],[],[5],[5,6],[5,6,7],[],[],[10],[10,11],[10,11,12],[],[10,11,12,13,14],[10,11,12,13,14,15],[],[17],[17,18],[17,18,19],[],[17,18,19,20,21],[17,18,19,20,21,22],(List.range' 0 9++List.range' 10 14),(List.range' 0 9++List.range' 10 15),(List.range' 0 26),(List.range' 0 27)]))] })
  (cfg:={ n:=61,own:=[],lim:=none,fns:=[76],wr:=[] }) (args:=[.pointer a,I b,I d]) (by kernel_rfl) (Bodies.cons Tryz.call76 Bodies.nil) (Eq.mp (by kernel_rfl:BSwap Tryz.prog a b d h K=_) hvc)
def BFind(P:Program)(i:OA)(t:Int)(c:Int)(h:Heap)(K:Value->Heap->Prop):Prop:=
 ∃ (d:List Value->Heap->Prop) (j:List Value->Heap->Nat),d [I t] h/\
 ∀ (a:Int),∀ b,d [I a] b->∃ s,i=some s/\∃ (u:OA) (k v:Nat),b.cell? (s.add 2)=some (.slice u k v)/\Br (decide (a<(k:Int))) (FCall P f_BRow #[.pointer i,I a] b (fun x e=>∃ (l:OA) (m w:Nat),x= .slice l m w/\∃ g,l=some g/\0<=c/\c<(m:Int)/\∃ (n:Bool) (o:OA) (p q:Nat),e.cell? (Addr.add (g.add (c.toNat*2)) 0)=some (.bool n)/\e.cell? (Addr.add (g.add (c.toNat*2)) 1)=some (.slice o p q)/\FCall P f_ZIsZero #[.agg #[.bool n,.slice o p q]] e (fun y f=>∃ (r:Bool),y= .bool r/\Br (!r) (K (.tuple #[I a,.bool true]) f)
 (d [I (wi64 (a+1))] f/\j [I (wi64 (a+1))] f<j [I a] b))))
 (K (.tuple #[I 0,.bool false]) b)
theorem BFind_ok(a:OA)(b:Int)(d:Int)(hvc:BFind Tryz.prog a b d h K):FCall Tryz.prog f_BFind #[.pointer a,I b,I d] h K:=
 fn_sound Tryz.func101 (c:=codeOf Tryz.f101) (by kernel_rfl) (rs:=[.tmp 6,.tmp 7]) (by kernel_rfl) (fa:={ loops:=[(2,{ slots:=[8],owns:=[],zs:=[.int .i64 0],lim:={ slots:=([6,7,8]++List.range' 10 18),keys:=[] } })],cuts:=[],orders:=[] })
  (cfg:={ n:=28,own:=[],lim:=none,fns:=[76,135],wr:=[] }) (args:=[.pointer a,I b,I d]) (by kernel_rfl) (Bodies.cons Tryz.call76 (Bodies.cons Tryz.call135 Bodies.nil)) (Eq.mp (by kernel_rfl:BFind Tryz.prog a b d h K=_) hvc)
def BClear(P:Program)(F:OA)(b4:Int)(b5:Int)(b:Int)(b6:Bool)(b7:OA)(b8 b9:Nat)(h:Heap)(K:Value->Heap->Prop):Prop:=
 FCall P f_BRow #[.pointer F,I b4] h (fun c2 c3=>∃ (i:OA) (e c0:Nat),c2= .slice i e c0/\FCall P f_BRow #[.pointer F,I b5] c3 (fun c4 v=>∃ (j:OA) (k c1:Nat),c4= .slice j k c1/\∃ A,i=some A/\0<=b/\b<(e:Int)/\∃ (m:Bool) (n:OA) (o p:Nat),v.cell? (Addr.add (A.add (b.toNat*2)) 0)=some (.bool m)/\v.cell? (Addr.add (A.add (b.toNat*2)) 1)=some (.slice n o p)/\∃ (f:List Value->Heap->Prop) (d:List Value->Heap->Nat),f [I 0] v/\
 ∀ (a:Int),∀ c,f [I a] c->Br (decide (a<(e:Int))) (∃ B,i=some B/\0<=a/\a<(e:Int)/\∃ (q:Bool) (r:OA) (s t:Nat),c.cell? (Addr.add (B.add (a.toNat*2)) 0)=some (.bool q)/\c.cell? (Addr.add (B.add (a.toNat*2)) 1)=some (.slice r s t)/\∃ (u:List Value->Heap->Prop),(FCall P f_ZIsZero #[.agg #[.bool q,.slice r s t]] c (fun c5 a8=>∃ (G:Bool),c5= .bool G/\Br G (FCall P f_ZIsZero #[.agg #[.bool m,.slice n o p]] a8 (fun c6 g=>∃ (H:Bool),c6= .bool H/\Br H (f [I (wi64 (a+1))] g/\d [I (wi64 (a+1))] g<d [I a] c)
 (∃ C,j=some C/\0<=a/\a<(k:Int)/\∃ (J:Bool) (L:OA) (M N:Nat),g.cell? (Addr.add (C.add (a.toNat*2)) 0)=some (.bool J)/\g.cell? (Addr.add (C.add (a.toNat*2)) 1)=some (.slice L M N)/\FCall P f_ZIsZero #[.agg #[.bool J,.slice L M N]] g (fun c7 w=>∃ (O:Bool),c7= .bool O/\Br O (f [I (wi64 (a+1))] w/\d [I (wi64 (a+1))] w<d [I a] c)
 (u [] w)))))
 (u [] a8)))/\
 ∀ b2,u [] b2->wpH P (Instr.alloc 185 true (.tuple #[])) (fun c8 x=>∃ (l:Addr),c8= .pointer (some l)/\∃ D,j=some D/\0<=b/\b<(k:Int)/\∃ (Q:Bool) (R:OA) (S T:Nat),x.cell? (Addr.add (D.add (b.toNat*2)) 0)=some (.bool Q)/\x.cell? (Addr.add (D.add (b.toNat*2)) 1)=some (.slice R S T)/\FCall P f_SAddProduct #[.pointer (some l),.agg #[.bool Q,.slice R S T],.agg #[.bool q,.slice r s t]] x (fun c9 y=>c9= .tuple #[]/\∃ E,j=some E/\0<=a/\a<(k:Int)/\∃ (V:Bool) (W:OA) (X Z:Nat),y.cell? (Addr.add (E.add (a.toNat*2)) 0)=some (.bool V)/\y.cell? (Addr.add (E.add (a.toNat*2)) 1)=some (.slice W X Z)/\FCall P f_SSubProduct #[.pointer (some l),.agg #[.bool m,.slice n o p],.agg #[.bool V,.slice W X Z]] y (fun d0 a9=>d0= .tuple #[]/\FCall P f_SValue #[.pointer (some l)] a9 (fun d1 z=>∃ (a0:Bool) (a1:OA) (a2 a3:Nat),d1= .agg #[.bool a0,.slice a1 a2 a3]/\Heap.le a9 z/\FCall P f_ZQuo #[.agg #[.bool a0,.slice a1 a2 a3],.agg #[.bool b6,.slice b7 b8 b9]] z (fun d2 b0=>∃ (a4:Bool) (a5:OA) (a6 a7:Nat),d2= .agg #[.bool a4,.slice a5 a6 a7]/\Heap.le z b0/\∃ b3,i=some b3/\0<=a/\a<(e:Int)/\wpH P (Instr.storeAt 94 (.pointer (some (b3.add (a.toNat*2)))) (.agg #[.bool a4,.slice a5 a6 a7])) (fun _ b1=>f [I (wi64 (a+1))] b1/\d [I (wi64 (a+1))] b1<d [I a] c) b0))))) b2)
 (K (.tuple #[]) c)))
theorem BClear_ok(a:OA)(b:Int)(d:Int)(e:Int)(f:Bool)(g:OA)(i j:Nat)(hvc:BClear Tryz.prog a b d e f g i j h K):FCall Tryz.prog f_BClear #[.pointer a,I b,I d,I e,.agg #[.bool f,.slice g i j]] h K:=
 fn_sound Tryz.func104 (c:=codeOf Tryz.f104) (by kernel_rfl) (rs:=[]) (by kernel_rfl) (fa:={ loops:=[(4,{ slots:=[28],owns:=[],zs:=[.int .i64 0],lim:={ slots:=([13,14,15]++List.range' 28 37),keys:=[14] } })],cuts:=[(7,{ slots:=[],owns:=[],zs:=[],lim:={ slots:=(List.range' 33 13),keys:=[] } })],orders:=[(8,([0,1,2,3,4,5],[[],[],[0,1],[0,1,2],[],[0,1,2,3,4]])),(9,([0,1,2,3,4,5],[[],[],[],[1,2],[1,2,3],[0,1,2,3,4]])),(10,([0,1,3,2,4,5,6],[[],[],[],[],[2,3],[0,1,2,3,4],[0,1,2,3,4,5]]))] })
  (cfg:={ n:=65,own:=[9,12,14],lim:=none,fns:=[76,135,136,150,151,160],wr:=[150,160] }) (args:=[.pointer a,I b,I d,I e,.agg #[.bool f,.slice g i j]]) (by kernel_rfl) (Bodies.cons Tryz.call76 (Bodies.cons Tryz.call135 (Bodies.cons Tryz.call136 (Bodies.cons Tryz.call150 (Bodies.cons Tryz.call151 (Bodies.cons Tryz.call160 Bodies.nil)))))) (Eq.mp (by kernel_rfl:BClear Tryz.prog a b d e f g i j h K=_) hvc)
def BReduce(P:Program)(m:OA)(Z:Int)(h:Heap)(K:Value->Heap->Prop):Prop:=
 FCall P f_WNew #[I 1] h (fun a3 a4=>∃ (G:Bool) (H:OA) (J L:Nat),a3= .agg #[.bool G,.slice H J L]/\∃ (o:List Value->Heap->Prop) (p:List Value->Heap->Nat),o [.slice none 0 0,I 1,I 0,.bool G,.slice H J L] a4/\
 ∀ (e:OA) (b f:Nat) (d:Int) (a:Int) (g:Bool) (i:OA) (j k:Nat),∀ n,o [.slice e b f,I d,I a,.bool g,.slice i j k] n->Br (decide (a<Z)) (FCall P f_BFind #[.pointer m,I (b:Int),I a] n (fun a5 s=>∃ (t:Int) (M:Bool),a5= .tuple #[I t,.bool M]/\Br (!M) (o [.slice e b f,I d,I (wi64 (a+1)),.bool g,.slice i j k] s/\p [.slice e b f,I d,I (wi64 (a+1)),.bool g,.slice i j k] s<p [.slice e b f,I d,I a,.bool g,.slice i j k] n)
 (∃ (u:List Value->Heap->Prop),(Br (t != (b:Int)) (FCall P f_BSwap #[.pointer m,I (b:Int),I t] s (fun a6 a7=>a6= .tuple #[]/\u [I (wi64 (0-d))] a7))
 (u [I d] s))/\
 ∀ (v:Int),∀ E,u [I v] E->∃ X,m=some X/\∃ (a0:OA) (N a1:Nat),E.cell? (X.add 2)=some (.slice a0 N a1)/\∃ (q:List Value->Heap->Prop) (r:List Value->Heap->Nat),q [I 0] E/\
 ∀ (c:Int),∀ l,q [I c] l->Br (decide (c<(N:Int))) (Br (c != (b:Int)) (FCall P f_BClear #[.pointer m,I c,I (b:Int),I a,.agg #[.bool g,.slice i j k]] l (fun a8 V=>a8= .tuple #[]/\q [I (wi64 (c+1))] V/\r [I (wi64 (c+1))] V<r [I c] l))
 (q [I (wi64 (c+1))] l/\r [I (wi64 (c+1))] l<r [I c] l))
 (FCall P f_BRow #[.pointer m,I (b:Int)] l (fun a9 D=>∃ (O:OA) (Q a2:Nat),a9= .slice O Q a2/\∃ F,O=some F/\0<=a/\a<(Q:Int)/\∃ (w:Bool) (x:OA) (y z:Nat),D.cell? (Addr.add (F.add (a.toNat*2)) 0)=some (.bool w)/\D.cell? (Addr.add (F.add (a.toNat*2)) 1)=some (.slice x y z)/\wpH P (Instr.buildSlice 27 1 #[(0,I a)]) (fun b0 b1=>∃ (R:OA) (S T:Nat),b0= .slice R S T/\wpH P (Builtin.append_ #[27,27] 27 #[.slice e b f,.slice R S T]) (fun b2 W=>∃ (A:OA) (B C:Nat),b2= .slice A B C/\o [.slice A B C,I v,I (wi64 (a+1)),.bool w,.slice x y z] W/\p [.slice A B C,I v,I (wi64 (a+1)),.bool w,.slice x y z] W<p [.slice e b f,I d,I a,.bool g,.slice i j k] n) b1) D)))))
 (K (.tuple #[.slice e b f,.agg #[.bool g,.slice i j k],I d]) n))
theorem BReduce_ok(a:OA)(b:Int)(hvc:BReduce Tryz.prog a b h K):FCall Tryz.prog f_BReduce #[.pointer a,I b] h K:=
 fn_sound Tryz.func69 (c:=codeOf Tryz.f69) (by kernel_rfl) (rs:=[.tmp 4,.cell 5 94,.tmp 6]) (by kernel_rfl) (fa:={ loops:=[(4,{ slots:=[7,9,17],owns:=[(8,2)],zs:=[.slice none 0 0,.int .i64 0,.int .i64 0,.bool false,.slice none 0 0],lim:={ slots:=([7,9,10,11,12,13,14]++List.range' 17 52),keys:=[8] } }),(13,{ slots:=[45],owns:=[],zs:=[.int .i64 0],lim:={ slots:=([14]++List.range' 45 13),keys:=[] } })],cuts:=[(12,{ slots:=[9],owns:=[],zs:=[.int .i64 0],lim:={ slots:=([9]++List.range' 31 9),keys:=[] } })],orders:=[(21,([0,1,2,3,4,5],[[],[],[],[0],[0,1,3],[0,1,2,3,4]]))] })
  (cfg:={ n:=72,own:=[5,8],lim:=none,fns:=[76,100,101,102,104],wr:=[102,104] }) (args:=[.pointer a,I b]) (by kernel_rfl) (Bodies.cons Tryz.call76 (Bodies.cons Tryz.call100 (Bodies.cons Tryz.call101 (Bodies.cons Tryz.call102 (Bodies.cons Tryz.call104 Bodies.nil))))) (Eq.mp (by kernel_rfl:BReduce Tryz.prog a b h K=_) hvc)
def MChunk(P:Program)(e:OA)(f g:Nat)(i:Int)(h:Heap)(K:Value->Heap->Prop):Prop:=
 wpH P (Instr.box 87 (.slice e f g)) (fun j k=>∃ (b:Addr),j= .pointer (some b)/\wpH P (Instr.box 3 (I i)) (fun l d=>∃ (a:Addr),l= .pointer (some a)/\∃ (c:Int),d.cell? a=some (I c)/\Br (decide (c<(1:Int))) (False)
 (K (.func (.func 174) #[] #[.pointer (some b),.pointer (some a)]) d)) k) h
theorem MChunk_ok(b:OA)(d e:Nat)(a:Int)(hvc:MChunk Tryz.prog b d e a h K):FCall Tryz.prog f_MChunk #[.slice b d e,I a] h K:=
 fn_sound Tryz.func131 (c:=codeOf Tryz.f131) (by kernel_rfl) (rs:=[.tmp 4]) (by kernel_rfl) (fa:={ loops:=[],cuts:=[],orders:=[] })
  (cfg:={ n:=9,own:=[],lim:=none,fns:=[],wr:=[] }) (args:=[.slice b d e,I a]) (by kernel_rfl) Bodies.nil (Eq.mp (by kernel_rfl:MChunk Tryz.prog b d e a h K=_) hvc)
def MChunk1(P:Program)(p:Nat)(f:Addr)(j:Addr)(h:Heap)(K:Value->Heap->Prop):Prop:=
 ∃ (g:List Value->Heap->Prop) (k:List Value->Heap->Nat),g [I 0] h/\
 ∀ (a:Int),∀ d,g [I a] d->∃ (q:OA) (l r:Nat),d.cell? f=some (.slice q l r)/\Br (decide (a<(l:Int))) (∃ (c:Int),d.cell? j=some (I c)/\∃ (s:OA) (b t:Nat),d.cell? f=some (.slice s b t)/\(0<=a/\a<=(b:Int))/\∃ (m:OA) (u n:Nat),d.cell? f=some (.slice m u n)/\(0<=wi64 (a+(if ((b-(a.toNat):Nat):Int)<c then ((b-(a.toNat):Nat):Int) else c))/\wi64 (a+(if ((b-(a.toNat):Nat):Int)<c then ((b-(a.toNat):Nat):Int) else c))<=(n:Int))/\(0<=wi64 (a+(if ((b-(a.toNat):Nat):Int)<c then ((b-(a.toNat):Nat):Int) else c))/\wi64 (a+(if ((b-(a.toNat):Nat):Int)<c then ((b-(a.toNat):Nat):Int) else c))<=(((wi64 (a+(if ((b-(a.toNat):Nat):Int)<c then ((b-(a.toNat):Nat):Int) else c))).toNat:Nat):Int))/\(0<=a/\a<=(((wi64 (a+(if ((b-(a.toNat):Nat):Int)<c then ((b-(a.toNat):Nat):Int) else c))).toNat:Nat):Int))/\YCall P p #[.slice (cutA m ((wi64 (a+(if ((b-(a.toNat):Nat):Int)<c then ((b-(a.toNat):Nat):Int) else c))).toNat) (a.toNat) 4) ((wi64 (a+(if ((b-(a.toNat):Nat):Int)<c then ((b-(a.toNat):Nat):Int) else c))).toNat-a.toNat) ((wi64 (a+(if ((b-(a.toNat):Nat):Int)<c then ((b-(a.toNat):Nat):Int) else c))).toNat-a.toNat)] d (fun v e=>∃ (o:Bool),v= .bool o/\Br (!o) (K (.tuple #[]) e)
 (∃ (i:Int),e.cell? j=some (I i)/\g [I (wi64 (a+i))] e/\k [I (wi64 (a+i))] e<k [I a] d)))
 (K (.tuple #[]) d)
theorem MChunk1_ok(a:Nat)(b:Addr)(d:Addr)(hvc:MChunk1 Tryz.prog a b d h K):FCall Tryz.prog f_MChunk1 #[.func (.yield a) #[] #[],.pointer (some b),.pointer (some d)] h K:=
 fn_sound Tryz.func174 (c:=codeOf Tryz.f174) (by kernel_rfl) (rs:=[]) (by kernel_rfl) (fa:={ loops:=[(1,{ slots:=[4],owns:=[],zs:=[.int .i64 0],lim:={ slots:=(List.range' 4 27),keys:=[] } })],cuts:=[],orders:=[(3,([0,1,2,3,4,5,6],[[],[],[],[1,2],[1,2,3],[0,1,2,3,4],[0,1,2,3,4,5]]))] })
  (cfg:={ n:=31,own:=[],lim:=none,fns:=[],wr:=[] }) (args:=[.func (.yield a) #[] #[],.pointer (some b),.pointer (some d)]) (by kernel_rfl) Bodies.nil (Eq.mp (by kernel_rfl:MChunk1 Tryz.prog a b d h K=_) hvc)
theorem MChunk1_enter:∀ (args:Array Value) (W:World),(callFunc f_MChunk1 args).run Tryz.prog W= .ok (.enter f_MChunk1 args) W:=Tryz.call174
def FRows(P:Program)(c:Int)(b:Int)(r:OA)(j s:Nat)(h:Heap)(K:Value->Heap->Prop):Prop:=
 Br (decide (c<(1:Int))) (K (.tuple #[.slice none 0 0,.bool false]) h)
 (Br (decide (c>(64:Int))) (K (.tuple #[.slice none 0 0,.bool false]) h)
 (Br (decide (b<(1:Int))) (K (.tuple #[.slice none 0 0,.bool false]) h)
 (Br (decide (b>(64:Int))) (K (.tuple #[.slice none 0 0,.bool false]) h)
 (Br ((j:Int) != (wi64 (c*b))) (K (.tuple #[.slice none 0 0,.bool false]) h)
 (FCall P f_NNums #[.slice r j s] h (fun u o=>∃ (k:OA) (t d:Nat) (l:Bool),u= .tuple #[.slice k t d,.bool l]/\Br (!l) (K (.tuple #[.slice none 0 0,.bool false]) o)
 (wpH P (Instr.makeSlice 46 (I c) (I c)) (fun v w=>∃ (f:OA) (g m:Nat),v= .slice f g m/\∃ (i:List Value->Heap->Prop) (n:List Value->Heap->Nat),i [I 0] w/\
 ∀ (a:Int),∀ e,i [I a] e->Br (decide (a<c)) ((0<=wi64 ((wi64 (a+1))*b)/\wi64 ((wi64 (a+1))*b)<=(d:Int))/\(0<=wi64 (a*b)/\wi64 (a*b)<=(((wi64 ((wi64 (a+1))*b)).toNat:Nat):Int))/\∃ q,f=some q/\0<=a/\a<(g:Int)/\wpH P (Instr.storeAt 43 (.pointer (some (q.add (a.toNat*1)))) (.slice (cutA k d ((wi64 (a*b)).toNat) 4) (((wi64 ((wi64 (a+1))*b)).toNat)-((wi64 (a*b)).toNat)) (d-((wi64 (a*b)).toNat)))) (fun _ p=>i [I (wi64 (a+1))] p/\n [I (wi64 (a+1))] p<n [I a] e) e)
 (K (.tuple #[.slice f g m,.bool true]) e)) o)))))))
theorem FRows_ok(a:Int)(b:Int)(d:OA)(e f:Nat)(hvc:FRows Tryz.prog a b d e f h K):FCall Tryz.prog f_FRows #[.agg #[I a,I b,.slice d e f]] h K:=
 fn_sound Tryz.func27 (c:=codeOf Tryz.f27) (by kernel_rfl) (rs:=[.tmp 2,.tmp 3]) (by kernel_rfl) (fa:={ loops:=[(8,{ slots:=[7],owns:=[],zs:=[.int .i64 0],lim:={ slots:=([7]++List.range' 48 20),keys:=[] } })],cuts:=[],orders:=[] })
  (cfg:={ n:=69,own:=[1],lim:=none,fns:=[26],wr:=[] }) (args:=[.agg #[I a,I b,.slice d e f]]) (by kernel_rfl) (Bodies.cons Tryz.call26 Bodies.nil) (Eq.mp (by kernel_rfl:FRows Tryz.prog a b d e f h K=_) hvc)
def FPack(P:Program)(n:OA)(c E:Nat)(h:Heap)(K:Value->Heap->Prop):Prop:=
 Br ((c:Int)==(0:Int)) (K (.agg #[I 0,I 0,.slice none 0 0]) h)
 (∃ y,n=some y/\0<=(0:Int)/\(0:Int)<(c:Int)/\∃ (A:OA) (o B:Nat),h.cell? (y.add (((0:Int)).toNat*1))=some (.slice A o B)/\∃ (j:List Value->Heap->Prop) (p:List Value->Heap->Nat),j [I 0,I (c:Int),I (o:Int),.slice none 0 0] h/\
 ∀ (a:Int) (d:Int) (e:Int) (f:OA) (g i:Nat),∀ b,j [I a,I d,I e,.slice f g i] b->Br (decide (a<(c:Int))) (∃ z,n=some z/\0<=a/\a<(c:Int)/\∃ (q:OA) (r s:Nat),b.cell? (z.add (a.toNat*1))=some (.slice q r s)/\FCall P f_NTexts #[.slice q r s] b (fun C w=>∃ (t:OA) (u v:Nat),C= .slice t u v/\Heap.le b w/\wpH P (Builtin.append_ #[22,22] 22 #[.slice f g i,.slice t u v]) (fun D x=>∃ (k:OA) (l m:Nat),D= .slice k l m/\j [I (wi64 (a+1)),I d,I e,.slice k l m] x/\p [I (wi64 (a+1)),I d,I e,.slice k l m] x<p [I a,I d,I e,.slice f g i] b) w))
 (K (.agg #[I d,I e,.slice f g i]) b))
theorem FPack_ok(a:OA)(b d:Nat)(hvc:FPack Tryz.prog a b d h K):FCall Tryz.prog f_FPack #[.slice a b d] h K:=
 fn_sound Tryz.func73 (c:=codeOf Tryz.f73) (by kernel_rfl) (rs:=[.cell 2 24]) (by kernel_rfl) (fa:={ loops:=[(5,{ slots:=[4],owns:=[(3,3)],zs:=[.int .i64 0,.int .i64 0,.int .i64 0,.slice none 0 0],lim:={ slots:=([4]++List.range' 16 15),keys:=[3] } })],cuts:=[],orders:=[(7,((List.range' 0 10),[[],[0],[],[],[2,3],[2,3,4],[2,3,4,5],[0,1,2,3,4,5,6],(List.range' 0 8),(List.range' 0 9)]))] })
  (cfg:={ n:=32,own:=[2,3],lim:=none,fns:=[84],wr:=[1000000000] }) (args:=[.slice a b d]) (by kernel_rfl) (Bodies.cons Tryz.call84 Bodies.nil) (Eq.mp (by kernel_rfl:FPack Tryz.prog a b d h K=_) hvc)
def FBlank(P:Program)(c:Int)(g:Int)(h:Heap)(K:Value->Heap->Prop):Prop:=
 wpH P (Instr.makeSlice 46 (I c) (I c)) (fun p q=>∃ (d:OA) (e i:Nat),p= .slice d e i/\∃ (f:List Value->Heap->Prop) (j:List Value->Heap->Nat),f [I 0] q/\
 ∀ (a:Int),∀ b,f [I a] b->Br (decide (a<c)) (wpH P (Instr.makeSlice 43 (I g) (I g)) (fun r s=>∃ (k:OA) (l m:Nat),r= .slice k l m/\∃ o,d=some o/\0<=a/\a<(e:Int)/\wpH P (Instr.storeAt 43 (.pointer (some (o.add (a.toNat*1)))) (.slice k l m)) (fun _ n=>f [I (wi64 (a+1))] n/\j [I (wi64 (a+1))] n<j [I a] b) s) b)
 (K (.slice d e i) b)) h
theorem FBlank_ok(a:Int)(b:Int)(hvc:FBlank Tryz.prog a b h K):FCall Tryz.prog f_FBlank #[I a,I b] h K:=
 fn_sound Tryz.func89 (c:=codeOf Tryz.f89) (by kernel_rfl) (rs:=[.tmp 4]) (by kernel_rfl) (fa:={ loops:=[(3,{ slots:=[6],owns:=[],zs:=[.int .i64 0],lim:={ slots:=([6]++List.range' 9 10),keys:=[] } })],cuts:=[],orders:=[] })
  (cfg:={ n:=20,own:=[],lim:=none,fns:=[],wr:=[] }) (args:=[I a,I b]) (by kernel_rfl) Bodies.nil (Eq.mp (by kernel_rfl:FBlank Tryz.prog a b h K=_) hvc)
def FTimes(P:Program)(w:OA)(l g4:Nat)(s:OA)(m g5:Nat)(h:Heap)(K:Value->Heap->Prop):Prop:=
 ∃ e2,s=some e2/\0<=(0:Int)/\(0:Int)<(m:Int)/\∃ (f0:OA) (x f1:Nat),h.cell? (e2.add (((0:Int)).toNat*1))=some (.slice f0 x f1)/\FCall P f_FBlank #[I (l:Int),I (x:Int)] h (fun f9 g0=>∃ (n:OA) (o y:Nat),f9= .slice n o y/\∃ (t:List Value->Heap->Prop) (z:List Value->Heap->Nat),t [I 0] g0/\
 ∀ (d:Int),∀ r,t [I d] r->Br (decide (d<(l:Int))) (∃ (p:List Value->Heap->Prop) (q:List Value->Heap->Nat),p [I 0] r/\
 ∀ (a:Int),∀ f,p [I a] f->Br (decide (a<(m:Int))) (∃ (u:List Value->Heap->Prop) (A:List Value->Heap->Nat),u [I 0] f/\
 ∀ (b:Int),∀ e,u [I b] e->∃ e3,s=some e3/\0<=(0:Int)/\(0:Int)<(m:Int)/\∃ (f2:OA) (B f3:Nat),e.cell? (e3.add (((0:Int)).toNat*1))=some (.slice f2 B f3)/\Br (decide (b<(B:Int))) (∃ e4,w=some e4/\0<=d/\d<(l:Int)/\∃ (C:OA) (D f4:Nat),e.cell? (e4.add (d.toNat*1))=some (.slice C D f4)/\∃ g,C=some g/\0<=a/\a<(D:Int)/\∃ (E:Bool) (F:OA) (G H:Nat) (J:Bool) (L:OA) (M N:Nat),e.cell? (Addr.add (g.add (a.toNat*4)) 0)=some (.bool E)/\e.cell? (Addr.add (g.add (a.toNat*4)) 1)=some (.slice F G H)/\e.cell? (Addr.add (g.add (a.toNat*4)) 2)=some (.bool J)/\e.cell? (Addr.add (g.add (a.toNat*4)) 3)=some (.slice L M N)/\FCall P f_NRSign #[.agg #[.bool E,.slice F G H,.bool J,.slice L M N]] e (fun g1 c=>∃ (O:Int),g1=I O/\Br (O != (0:Int)) (∃ e5,n=some e5/\0<=d/\d<(o:Int)/\∃ (Q:OA) (R f5:Nat),c.cell? (e5.add (d.toNat*1))=some (.slice Q R f5)/\∃ e6,n=some e6/\0<=d/\d<(o:Int)/\∃ (S:OA) (T f6:Nat),c.cell? (e6.add (d.toNat*1))=some (.slice S T f6)/\∃ i,S=some i/\0<=b/\b<(T:Int)/\∃ (V:Bool) (W:OA) (X Z:Nat) (a0:Bool) (a1:OA) (a2 a3:Nat),c.cell? (Addr.add (i.add (b.toNat*4)) 0)=some (.bool V)/\c.cell? (Addr.add (i.add (b.toNat*4)) 1)=some (.slice W X Z)/\c.cell? (Addr.add (i.add (b.toNat*4)) 2)=some (.bool a0)/\c.cell? (Addr.add (i.add (b.toNat*4)) 3)=some (.slice a1 a2 a3)/\∃ e7,w=some e7/\0<=d/\d<(l:Int)/\∃ (a4:OA) (a5 f7:Nat),c.cell? (e7.add (d.toNat*1))=some (.slice a4 a5 f7)/\∃ j,a4=some j/\0<=a/\a<(a5:Int)/\∃ (a6:Bool) (a7:OA) (a8 a9:Nat) (b0:Bool) (b1:OA) (b2 b3:Nat),c.cell? (Addr.add (j.add (a.toNat*4)) 0)=some (.bool a6)/\c.cell? (Addr.add (j.add (a.toNat*4)) 1)=some (.slice a7 a8 a9)/\c.cell? (Addr.add (j.add (a.toNat*4)) 2)=some (.bool b0)/\c.cell? (Addr.add (j.add (a.toNat*4)) 3)=some (.slice b1 b2 b3)/\∃ e8,s=some e8/\0<=a/\a<(m:Int)/\∃ (b4:OA) (b5 f8:Nat),c.cell? (e8.add (a.toNat*1))=some (.slice b4 b5 f8)/\∃ k,b4=some k/\0<=b/\b<(b5:Int)/\∃ (b6:Bool) (b7:OA) (b8 b9:Nat) (c0:Bool) (c1:OA) (c2 c3:Nat),c.cell? (Addr.add (k.add (b.toNat*4)) 0)=some (.bool b6)/\c.cell? (Addr.add (k.add (b.toNat*4)) 1)=some (.slice b7 b8 b9)/\c.cell? (Addr.add (k.add (b.toNat*4)) 2)=some (.bool c0)/\c.cell? (Addr.add (k.add (b.toNat*4)) 3)=some (.slice c1 c2 c3)/\FCall P f_NRMul #[.agg #[.bool a6,.slice a7 a8 a9,.bool b0,.slice b1 b2 b3],.agg #[.bool b6,.slice b7 b8 b9,.bool c0,.slice c1 c2 c3]] c (fun g2 v=>∃ (c4:Bool) (c5:OA) (c6 c7:Nat) (c8:Bool) (c9:OA) (d0 d1:Nat),g2= .agg #[.bool c4,.slice c5 c6 c7,.bool c8,.slice c9 d0 d1]/\Heap.le c v/\FCall P f_NRAdd #[.agg #[.bool V,.slice W X Z,.bool a0,.slice a1 a2 a3],.agg #[.bool c4,.slice c5 c6 c7,.bool c8,.slice c9 d0 d1]] v (fun g3 e0=>∃ (d2:Bool) (d3:OA) (d4 d5:Nat) (d6:Bool) (d7:OA) (d8 d9:Nat),g3= .agg #[.bool d2,.slice d3 d4 d5,.bool d6,.slice d7 d8 d9]/\Heap.le v e0/\∃ e9,Q=some e9/\0<=b/\b<(R:Int)/\wpH P (Instr.storeAt 54 (.pointer (some (e9.add (b.toNat*4)))) (.agg #[.bool d2,.slice d3 d4 d5,.bool d6,.slice d7 d8 d9])) (fun _ e1=>u [I (wi64 (b+1))] e1/\A [I (wi64 (b+1))] e1<A [I b] e) e0)))
 (p [I (wi64 (a+1))] c/\q [I (wi64 (a+1))] c<q [I a] f)))
 (p [I (wi64 (a+1))] e/\q [I (wi64 (a+1))] e<q [I a] f))
 (t [I (wi64 (d+1))] f/\z [I (wi64 (d+1))] f<z [I d] r))
 (K (.slice n o y) r))
theorem FTimes_ok(a:OA)(b d:Nat)(e:OA)(f g:Nat)(hvc:FTimes Tryz.prog a b d e f g h K):FCall Tryz.prog f_FTimes #[.slice a b d,.slice e f g] h K:=
 fn_sound Tryz.func93 (c:=codeOf Tryz.f93) (by kernel_rfl) (rs:=[.tmp 4]) (by kernel_rfl) (fa:={ loops:=[(3,{ slots:=[6],owns:=[],zs:=[.int .i64 0],lim:={ slots:=([6,7,8]++List.range' 16 60),keys:=[] } }),(6,{ slots:=[7],owns:=[],zs:=[.int .i64 0],lim:={ slots:=([7,8]++List.range' 22 54),keys:=[] } }),(9,{ slots:=[8],owns:=[],zs:=[.int .i64 0],lim:={ slots:=([8]++List.range' 28 48),keys:=[] } })],cuts:=[],orders:=[(11,((List.range' 0 30),[[],[],[0,1],[0,1,2],[],[],[],[5,6],[5,6,7],[],[5,6,7,8,9],[5,6,7,8,9,10],[],[],[12,13],[12,13,14],[],[12,13,14,15,16],[12,13,14,15,16,17],[],[],[19,20],[19,20,21],[],[19,20,21,22,23],[19,20,21,22,23,24],(List.range' 12 14),(List.range' 5 22),(List.range' 0 28),(List.range' 0 29)]))] })
  (cfg:={ n:=77,own:=[],lim:=none,fns:=[32,87,88,89],wr:=[] }) (args:=[.slice a b d,.slice e f g]) (by kernel_rfl) (Bodies.cons Tryz.call32 (Bodies.cons Tryz.call87 (Bodies.cons Tryz.call88 (Bodies.cons Tryz.call89 Bodies.nil)))) (Eq.mp (by kernel_rfl:FTimes Tryz.prog a b d e f g h K=_) hvc)
def FDot(P:Program)(a3:OA)(y a8:Nat)(a4:OA)(a5 a9:Nat)(h:Heap)(K:Value->Heap->Prop):Prop:=
 ∃ (n:List Value->Heap->Prop) (z:List Value->Heap->Nat),n [I 0,.bool false,.slice none 0 0,.bool false,.slice none 0 0] h/\
 ∀ (a:Int) (e:Bool) (f:OA) (g i:Nat) (j:Bool) (k:OA) (l m:Nat),∀ b,n [I a,.bool e,.slice f g i,.bool j,.slice k l m] b->Br (decide (a<(y:Int))) (∃ c,a3=some c/\0<=a/\a<(y:Int)/\∃ (A:Bool) (B:OA) (C D:Nat) (E:Bool) (F:OA) (G H:Nat),b.cell? (Addr.add (c.add (a.toNat*4)) 0)=some (.bool A)/\b.cell? (Addr.add (c.add (a.toNat*4)) 1)=some (.slice B C D)/\b.cell? (Addr.add (c.add (a.toNat*4)) 2)=some (.bool E)/\b.cell? (Addr.add (c.add (a.toNat*4)) 3)=some (.slice F G H)/\∃ d,a4=some d/\0<=a/\a<(a5:Int)/\∃ (J:Bool) (L:OA) (M N:Nat) (O:Bool) (Q:OA) (R S:Nat),b.cell? (Addr.add (d.add (a.toNat*4)) 0)=some (.bool J)/\b.cell? (Addr.add (d.add (a.toNat*4)) 1)=some (.slice L M N)/\b.cell? (Addr.add (d.add (a.toNat*4)) 2)=some (.bool O)/\b.cell? (Addr.add (d.add (a.toNat*4)) 3)=some (.slice Q R S)/\FCall P f_NRMul #[.agg #[.bool A,.slice B C D,.bool E,.slice F G H],.agg #[.bool J,.slice L M N,.bool O,.slice Q R S]] b (fun a6 w=>∃ (T:Bool) (V:OA) (W X:Nat) (Z:Bool) (a0:OA) (a1 a2:Nat),a6= .agg #[.bool T,.slice V W X,.bool Z,.slice a0 a1 a2]/\Heap.le b w/\FCall P f_NRAdd #[.agg #[.bool e,.slice f g i,.bool j,.slice k l m],.agg #[.bool T,.slice V W X,.bool Z,.slice a0 a1 a2]] w (fun a7 x=>∃ (o:Bool) (p:OA) (q r:Nat) (s:Bool) (t:OA) (u v:Nat),a7= .agg #[.bool o,.slice p q r,.bool s,.slice t u v]/\Heap.le w x/\n [I (wi64 (a+1)),.bool o,.slice p q r,.bool s,.slice t u v] x/\z [I (wi64 (a+1)),.bool o,.slice p q r,.bool s,.slice t u v] x<z [I a,.bool e,.slice f g i,.bool j,.slice k l m] b)))
 (K (.agg #[.bool e,.slice f g i,.bool j,.slice k l m]) b)
theorem FDot_ok(a:OA)(b d:Nat)(e:OA)(f g:Nat)(hvc:FDot Tryz.prog a b d e f g h K):FCall Tryz.prog f_FDot #[.slice a b d,.slice e f g] h K:=
 fn_sound Tryz.func29 (c:=codeOf Tryz.f29) (by kernel_rfl) (rs:=[.cell 4 54]) (by kernel_rfl) (fa:={ loops:=[(3,{ slots:=[6],owns:=[(5,4)],zs:=[.int .i64 0,.bool false,.slice none 0 0,.bool false,.slice none 0 0],lim:={ slots:=([6]++List.range' 8 17),keys:=[5] } })],cuts:=[],orders:=[(5,((List.range' 0 12),[[],[],[],[1,2],[1,2,3],[],[],[5,6],[5,6,7],(List.range' 1 8),(List.range' 0 10),(List.range' 0 11)]))] })
  (cfg:={ n:=26,own:=[4,5],lim:=none,fns:=[87,88],wr:=[] }) (args:=[.slice a b d,.slice e f g]) (by kernel_rfl) (Bodies.cons Tryz.call87 (Bodies.cons Tryz.call88 Bodies.nil)) (Eq.mp (by kernel_rfl:FDot Tryz.prog a b d e f g h K=_) hvc)
def FAct(P:Program)(x:OA)(c F:Nat)(y:OA)(z A:Nat)(h:Heap)(K:Value->Heap->Prop):Prop:=
 wpH P (Instr.makeSlice 43 (I (c:Int)) (I (c:Int))) (fun B C=>∃ (d:OA) (e g:Nat),B= .slice d e g/\∃ (f:List Value->Heap->Prop) (i:List Value->Heap->Nat),f [I 0] C/\
 ∀ (a:Int),∀ b,f [I a] b->Br (decide (a<(c:Int))) (∃ v,x=some v/\0<=a/\a<(c:Int)/\∃ (j:OA) (k l:Nat),b.cell? (v.add (a.toNat*1))=some (.slice j k l)/\FCall P f_FDot #[.slice j k l,.slice y z A] b (fun D E=>∃ (m:Bool) (n:OA) (o p:Nat) (q:Bool) (r:OA) (s t:Nat),D= .agg #[.bool m,.slice n o p,.bool q,.slice r s t]/\∃ w,d=some w/\0<=a/\a<(e:Int)/\wpH P (Instr.storeAt 54 (.pointer (some (w.add (a.toNat*4)))) (.agg #[.bool m,.slice n o p,.bool q,.slice r s t])) (fun _ u=>f [I (wi64 (a+1))] u/\i [I (wi64 (a+1))] u<i [I a] b) E))
 (K (.slice d e g) b)) h
theorem FAct_ok(a:OA)(b d:Nat)(e:OA)(f g:Nat)(hvc:FAct Tryz.prog a b d e f g h K):FCall Tryz.prog f_FAct #[.slice a b d,.slice e f g] h K:=
 fn_sound Tryz.func30 (c:=codeOf Tryz.f30) (by kernel_rfl) (rs:=[.tmp 4]) (by kernel_rfl) (fa:={ loops:=[(3,{ slots:=[6],owns:=[],zs:=[.int .i64 0],lim:={ slots:=([6]++List.range' 10 15),keys:=[] } })],cuts:=[],orders:=[] })
  (cfg:={ n:=26,own:=[],lim:=none,fns:=[29],wr:=[] }) (args:=[.slice a b d,.slice e f g]) (by kernel_rfl) (Bodies.cons Tryz.call29 Bodies.nil) (Eq.mp (by kernel_rfl:FAct Tryz.prog a b d e f g h K=_) hvc)
def FMul(P:Program)(u:Int)(b:Int)(v:OA)(w x:Nat)(c:Int)(y:Int)(z:OA)(A B:Nat)(h:Heap)(K:Value->Heap->Prop):Prop:=
 FCall P f_FRows #[.agg #[I u,I b,.slice v w x]] h (fun C D=>∃ (d:OA) (e f:Nat) (g:Bool),C= .tuple #[.slice d e f,.bool g]/\FCall P f_FRows #[.agg #[I c,I y,.slice z A B]] D (fun E a=>∃ (i:OA) (j k:Nat) (l:Bool),E= .tuple #[.slice i j k,.bool l]/\Br (!g) (K (.tuple #[.agg #[I 0,I 0,.slice none 0 0],I 1]) a)
 (Br (!l) (K (.tuple #[.agg #[I 0,I 0,.slice none 0 0],I 1]) a)
 (Br (b != c) (K (.tuple #[.agg #[I 0,I 0,.slice none 0 0],I 4]) a)
 (FCall P f_FTimes #[.slice d e f,.slice i j k] a (fun F G=>∃ (m:OA) (n o:Nat),F= .slice m n o/\FCall P f_FPack #[.slice m n o] G (fun H J=>∃ (p:Int) (q:Int) (r:OA) (s t:Nat),H= .agg #[I p,I q,.slice r s t]/\K (.tuple #[.agg #[I p,I q,.slice r s t],I 0]) J)))))))
theorem FMul_ok(a:Int)(b:Int)(d:OA)(e f:Nat)(g:Int)(i:Int)(j:OA)(k l:Nat)(hvc:FMul Tryz.prog a b d e f g i j k l h K):FCall Tryz.prog f_FMul #[.agg #[I a,I b,.slice d e f],.agg #[I g,I i,.slice j k l]] h K:=
 fn_sound Tryz.func34 (c:=codeOf Tryz.f34) (by kernel_rfl) (rs:=[.cell 4 24,.tmp 5]) (by kernel_rfl) (fa:={ loops:=[],cuts:=[],orders:=[] })
  (cfg:={ n:=37,own:=[2,3,4],lim:=none,fns:=[27,73,93],wr:=[] }) (args:=[.agg #[I a,I b,.slice d e f],.agg #[I g,I i,.slice j k l]]) (by kernel_rfl) (Bodies.cons Tryz.call27 (Bodies.cons Tryz.call73 (Bodies.cons Tryz.call93 Bodies.nil))) (Eq.mp (by kernel_rfl:FMul Tryz.prog a b d e f g i j k l h K=_) hvc)
def FApply(P:Program)(r:Int)(c:Int)(s:OA)(t u:Nat)(v:OA)(w x:Nat)(h:Heap)(K:Value->Heap->Prop):Prop:=
 FCall P f_FRows #[.agg #[I r,I c,.slice s t u]] h (fun y z=>∃ (d:OA) (e f:Nat) (g:Bool),y= .tuple #[.slice d e f,.bool g]/\FCall P f_NNums #[.slice v w x] z (fun A a=>∃ (i:OA) (b j:Nat) (k:Bool),A= .tuple #[.slice i b j,.bool k]/\Br (!g) (K (.tuple #[.slice none 0 0,I 1]) a)
 (Br (!k) (K (.tuple #[.slice none 0 0,I 1]) a)
 (Br ((b:Int) != c) (K (.tuple #[.slice none 0 0,I 4]) a)
 (FCall P f_FAct #[.slice d e f,.slice i b j] a (fun B C=>∃ (l:OA) (m n:Nat),B= .slice l m n/\FCall P f_NTexts #[.slice l m n] C (fun D E=>∃ (o:OA) (p q:Nat),D= .slice o p q/\K (.tuple #[.slice o p q,I 0]) E)))))))
theorem FApply_ok(a:Int)(b:Int)(d:OA)(e f:Nat)(g:OA)(i j:Nat)(hvc:FApply Tryz.prog a b d e f g i j h K):FCall Tryz.prog f_FApply #[.agg #[I a,I b,.slice d e f],.slice g i j] h K:=
 fn_sound Tryz.func36 (c:=codeOf Tryz.f36) (by kernel_rfl) (rs:=[.tmp 4,.tmp 5]) (by kernel_rfl) (fa:={ loops:=[],cuts:=[],orders:=[] })
  (cfg:={ n:=35,own:=[2],lim:=none,fns:=[26,27,30,84],wr:=[] }) (args:=[.agg #[I a,I b,.slice d e f],.slice g i j]) (by kernel_rfl) (Bodies.cons Tryz.call26 (Bodies.cons Tryz.call27 (Bodies.cons Tryz.call30 (Bodies.cons Tryz.call84 Bodies.nil)))) (Eq.mp (by kernel_rfl:FApply Tryz.prog a b d e f g i j h K=_) hvc)
def KShort(P:Program)(i:Int)(j:OA)(d k:Nat)(h:Heap)(K:Value->Heap->Prop):Prop:=
 ∃ (c:List Value->Heap->Prop) (e:List Value->Heap->Nat),c [I 0] h/\
 ∀ (a:Int),∀ b,c [I a] b->Br (decide (a<(d:Int))) (∃ g,j=some g/\0<=a/\a<(d:Int)/\∃ (f:ByteArray),b.cell? (g.add (a.toNat*1))=some (.string f)/\Br (decide (((ByteArray.size f:Nat):Int)>i)) (K (.bool false) b)
 (c [I (wi64 (a+1))] b/\e [I (wi64 (a+1))] b<e [I a] b))
 (K (.bool true) b)
theorem KShort_ok(a:Int)(b:OA)(d e:Nat)(hvc:KShort Tryz.prog a b d e h K):FCall Tryz.prog f_KShort #[I a,.slice b d e] h K:=
 fn_sound Tryz.func22 (c:=codeOf Tryz.f22) (by kernel_rfl) (rs:=[.tmp 4]) (by kernel_rfl) (fa:={ loops:=[(2,{ slots:=[5],owns:=[],zs:=[.int .i64 0],lim:={ slots:=(List.range' 4 15),keys:=[] } })],cuts:=[],orders:=[] })
  (cfg:={ n:=19,own:=[],lim:=none,fns:=[],wr:=[] }) (args:=[I a,.slice b d e]) (by kernel_rfl) Bodies.nil (Eq.mp (by kernel_rfl:KShort Tryz.prog a b d e h K=_) hvc)
def KSmallMatrix(P:Program)(d:Int)(e:Int)(f:OA)(b g:Nat)(a:Int)(i:Int)(h:Heap)(K:Value->Heap->Prop):Prop:=
 Br (decide (d<=a)) (Br (decide (e<=a)) (Br (decide ((b:Int)<=(wi64 ((wi64 (a*a))+2)))) (FCall P f_KShort #[I i,.slice f b g] h (fun j k=>∃ (c:Bool),j= .bool c/\K (.bool c) k))
 (K (.bool false) h))
 (K (.bool false) h))
 (K (.bool false) h)
theorem KSmallMatrix_ok(b:Int)(d:Int)(e:OA)(f g:Nat)(a:Int)(i:Int)(hvc:KSmallMatrix Tryz.prog b d e f g a i h K):FCall Tryz.prog f_KSmallMatrix #[.agg #[I b,I d,.slice e f g],I a,I i] h K:=
 fn_sound Tryz.func48 (c:=codeOf Tryz.f48) (by kernel_rfl) (rs:=[.tmp 6]) (by kernel_rfl) (fa:={ loops:=[],cuts:=[],orders:=[] })
  (cfg:={ n:=33,own:=[3],lim:=none,fns:=[22],wr:=[] }) (args:=[.agg #[I b,I d,.slice e f g],I a,I i]) (by kernel_rfl) (Bodies.cons Tryz.call22 Bodies.nil) (Eq.mp (by kernel_rfl:KSmallMatrix Tryz.prog b d e f g a i h K=_) hvc)
def KStrings(P:Program)(l:OA)(c n:Nat)(m:OA)(e o:Nat)(h:Heap)(K:Value->Heap->Prop):Prop:=
 Br ((c:Int) != (e:Int)) (K (.bool false) h)
 (∃ (d:List Value->Heap->Prop) (f:List Value->Heap->Nat),d [I 0] h/\
 ∀ (a:Int),∀ b,d [I a] b->Br (decide (a<(c:Int))) (∃ j,l=some j/\0<=a/\a<(c:Int)/\∃ (g:ByteArray),b.cell? (j.add (a.toNat*1))=some (.string g)/\∃ k,m=some k/\0<=a/\a<(e:Int)/\∃ (i:ByteArray),b.cell? (k.add (a.toNat*1))=some (.string i)/\Br (!(ByteArray.toList g==ByteArray.toList i)) (K (.bool false) b)
 (d [I (wi64 (a+1))] b/\f [I (wi64 (a+1))] b<f [I a] b))
 (K (.bool true) b))
theorem KStrings_ok(a:OA)(b d:Nat)(e:OA)(f g:Nat)(hvc:KStrings Tryz.prog a b d e f g h K):FCall Tryz.prog f_KStrings #[.slice a b d,.slice e f g] h K:=
 fn_sound Tryz.func25 (c:=codeOf Tryz.f25) (by kernel_rfl) (rs:=[.tmp 4]) (by kernel_rfl) (fa:={ loops:=[(4,{ slots:=[5],owns:=[],zs:=[.int .i64 0],lim:={ slots:=([4,5]++List.range' 11 15),keys:=[] } })],cuts:=[],orders:=[(6,((List.range' 0 9),[[],[],[0,1],[0,1,2],[],[],[4,5],[4,5,6],(List.range' 0 8)]))] })
  (cfg:={ n:=26,own:=[],lim:=none,fns:=[],wr:=[] }) (args:=[.slice a b d,.slice e f g]) (by kernel_rfl) Bodies.nil (Eq.mp (by kernel_rfl:KStrings Tryz.prog a b d e f g h K=_) hvc)
def KInts(P:Program)(l:OA)(c n:Nat)(m:OA)(e o:Nat)(h:Heap)(K:Value->Heap->Prop):Prop:=
 Br ((c:Int) != (e:Int)) (K (.bool false) h)
 (∃ (d:List Value->Heap->Prop) (f:List Value->Heap->Nat),d [I 0] h/\
 ∀ (a:Int),∀ b,d [I a] b->Br (decide (a<(c:Int))) (∃ j,l=some j/\0<=a/\a<(c:Int)/\∃ (g:Int),b.cell? (j.add (a.toNat*1))=some (I g)/\∃ k,m=some k/\0<=a/\a<(e:Int)/\∃ (i:Int),b.cell? (k.add (a.toNat*1))=some (I i)/\Br (g != i) (K (.bool false) b)
 (d [I (wi64 (a+1))] b/\f [I (wi64 (a+1))] b<f [I a] b))
 (K (.bool true) b))
theorem KInts_ok(a:OA)(b d:Nat)(e:OA)(f g:Nat)(hvc:KInts Tryz.prog a b d e f g h K):FCall Tryz.prog f_KInts #[.slice a b d,.slice e f g] h K:=
 fn_sound Tryz.func21 (c:=codeOf Tryz.f21) (by kernel_rfl) (rs:=[.tmp 4]) (by kernel_rfl) (fa:={ loops:=[(4,{ slots:=[5],owns:=[],zs:=[.int .i64 0],lim:={ slots:=([4,5]++List.range' 11 15),keys:=[] } })],cuts:=[],orders:=[(6,((List.range' 0 9),[[],[],[0,1],[0,1,2],[],[],[4,5],[4,5,6],(List.range' 0 8)]))] })
  (cfg:={ n:=26,own:=[],lim:=none,fns:=[],wr:=[] }) (args:=[.slice a b d,.slice e f g]) (by kernel_rfl) Bodies.nil (Eq.mp (by kernel_rfl:KInts Tryz.prog a b d e f g h K=_) hvc)
def KMatrices(P:Program)(b:Int)(c:Int)(d:OA)(e f:Nat)(g:Int)(i:Int)(j:OA)(k l:Nat)(h:Heap)(K:Value->Heap->Prop):Prop:=
 Br (b==g) (Br (c==i) (FCall P f_KStrings #[.slice d e f,.slice j k l] h (fun m n=>∃ (a:Bool),m= .bool a/\K (.bool a) n))
 (K (.bool false) h))
 (K (.bool false) h)
theorem KMatrices_ok(a:Int)(b:Int)(d:OA)(e f:Nat)(g:Int)(i:Int)(j:OA)(k l:Nat)(hvc:KMatrices Tryz.prog a b d e f g i j k l h K):FCall Tryz.prog f_KMatrices #[.agg #[I a,I b,.slice d e f],.agg #[I g,I i,.slice j k l]] h K:=
 fn_sound Tryz.func20 (c:=codeOf Tryz.f20) (by kernel_rfl) (rs:=[.tmp 4]) (by kernel_rfl) (fa:={ loops:=[],cuts:=[],orders:=[] })
  (cfg:={ n:=24,own:=[2,3],lim:=none,fns:=[25],wr:=[] }) (args:=[.agg #[I a,I b,.slice d e f],.agg #[I g,I i,.slice j k l]]) (by kernel_rfl) (Bodies.cons Tryz.call25 Bodies.nil) (Eq.mp (by kernel_rfl:KMatrices Tryz.prog a b d e f g i j k l h K=_) hvc)
def LAwake(P:Program) (h:Heap)(K:Value->Heap->Prop):Prop:=
 wpH P (Instr.buildSlice 22 4 #[(0,.string ({ data:=#[50] }:ByteArray)),(1,.string ({ data:=#[52] }:ByteArray)),(2,.string ({ data:=#[49] }:ByteArray)),(3,.string ({ data:=#[50] }:ByteArray))]) (fun D E=>∃ (b:OA) (c d:Nat),D= .slice b c d/\FCall P f_MReduce #[.agg #[I 2,I 2,.slice b c d]] E (fun F G=>∃ (B:Int) (C:Int) (e:OA) (f g:Nat) (i:OA) (j k:Nat) (l:Int),F= .tuple #[.agg #[I B,I C,.slice e f g],.slice i j k,I l]/\wpH P (Instr.buildSlice 22 4 #[(0,.string ({ data:=#[49] }:ByteArray)),(1,.string ({ data:=#[50] }:ByteArray)),(2,.string ({ data:=#[51] }:ByteArray)),(3,.string ({ data:=#[52] }:ByteArray))]) (fun H J=>∃ (m:OA) (n o:Nat),H= .slice m n o/\FCall P f_MDet #[.agg #[I 2,I 2,.slice m n o]] J (fun L z=>∃ (p:ByteArray) (q:Int),L= .tuple #[.string p,I q]/\Br (l==(0:Int)) (wpH P (Instr.buildSlice 22 4 #[(0,.string ({ data:=#[49] }:ByteArray)),(1,.string ({ data:=#[50] }:ByteArray)),(2,.string ({ data:=#[48] }:ByteArray)),(3,.string ({ data:=#[48] }:ByteArray))]) (fun M N=>∃ (r:OA) (s t:Nat),M= .slice r s t/\FCall P f_KStrings #[.slice e f g,.slice r s t] N (fun O A=>∃ (u:Bool),O= .bool u/\Br u (wpH P (Instr.buildSlice 27 1 #[(0,I 0)]) (fun Q R=>∃ (v:OA) (w x:Nat),Q= .slice v w x/\FCall P f_KInts #[.slice i j k,.slice v w x] R (fun S a=>∃ (y:Bool),S= .bool y/\Br y (Br (ByteArray.toList p==ByteArray.toList ({ data:=#[45,50] }:ByteArray)) (K (.bool (q==(0:Int))) a)
 (K (.bool false) a))
 (K (.bool false) a))) A)
 (K (.bool false) A))) z)
 (K (.bool false) z))) G)) h
theorem LAwake_ok (hvc:LAwake Tryz.prog  h K):FCall Tryz.prog f_LAwake #[] h K:=
 fn_sound Tryz.func14 (c:=codeOf Tryz.f14) (by kernel_rfl) (rs:=[.tmp 0]) (by kernel_rfl) (fa:={ loops:=[],cuts:=[],orders:=[] })
  (cfg:={ n:=42,own:=[1,2],lim:=none,fns:=[15,21,25,37],wr:=[] }) (args:=[]) (by kernel_rfl) (Bodies.cons Tryz.call15 (Bodies.cons Tryz.call21 (Bodies.cons Tryz.call25 (Bodies.cons Tryz.call37 Bodies.nil)))) (Eq.mp (by kernel_rfl:LAwake Tryz.prog  h K=_) hvc)
def LSmall(P:Program)(b:Int)(c:Int)(d:OA)(e f:Nat)(h:Heap)(K:Value->Heap->Prop):Prop:=
 FCall P f_KSmallMatrix #[.agg #[I b,I c,.slice d e f],I 6,I 12] h (fun g i=>∃ (a:Bool),g= .bool a/\K (.bool a) i)
theorem LSmall_ok(a:Int)(b:Int)(d:OA)(e f:Nat)(hvc:LSmall Tryz.prog a b d e f h K):FCall Tryz.prog f_LSmall #[.agg #[I a,I b,.slice d e f]] h K:=
 fn_sound Tryz.func13 (c:=codeOf Tryz.f13) (by kernel_rfl) (rs:=[.tmp 2]) (by kernel_rfl) (fa:={ loops:=[],cuts:=[],orders:=[] })
  (cfg:={ n:=5,own:=[1],lim:=none,fns:=[48],wr:=[] }) (args:=[.agg #[I a,I b,.slice d e f]]) (by kernel_rfl) (Bodies.cons Tryz.call48 Bodies.nil) (Eq.mp (by kernel_rfl:LSmall Tryz.prog a b d e f h K=_) hvc)
def LMatrixProducts(P:Program)(a:Int)(b:Int)(c:OA)(d e:Nat)(g:Int)(i:Int)(j:OA)(k l:Nat)(m:OA)(f n:Nat)(h:Heap)(K:Value->Heap->Prop):Prop:=
 FCall P f_LSmall #[.agg #[I a,I b,.slice c d e]] h (fun a2 a0=>∃ (r:Bool),a2= .bool r/\Br (!r) (FCall P f_LAwake #[] a0 (fun a3 a4=>∃ (s:Bool),a3= .bool s/\K (.bool s) a4))
 (FCall P f_LSmall #[.agg #[I g,I i,.slice j k l]] a0 (fun a5 o=>∃ (t:Bool),a5= .bool t/\Br (!t) (FCall P f_LAwake #[] o (fun a6 a7=>∃ (u:Bool),a6= .bool u/\K (.bool u) a7))
 (Br (decide ((f:Int)>(10:Int))) (FCall P f_LAwake #[] o (fun a8 a9=>∃ (v:Bool),a8= .bool v/\K (.bool v) a9))
 (FCall P f_KShort #[I 20,.slice m f n] o (fun b0 a1=>∃ (w:Bool),b0= .bool w/\Br (!w) (FCall P f_LAwake #[] a1 (fun b1 b2=>∃ (x:Bool),b1= .bool x/\K (.bool x) b2))
 (FCall P f_MMul #[.agg #[I a,I b,.slice c d e],.agg #[I g,I i,.slice j k l]] a1 (fun b3 b4=>∃ (y:Int) (z:Int) (A:OA) (B C:Nat) (D:Int),b3= .tuple #[.agg #[I y,I z,.slice A B C],I D]/\FCall P f_FMul #[.agg #[I a,I b,.slice c d e],.agg #[I g,I i,.slice j k l]] b4 (fun b5 b6=>∃ (E:Int) (F:Int) (G:OA) (H J:Nat) (L:Int),b5= .tuple #[.agg #[I E,I F,.slice G H J],I L]/\FCall P f_MApply #[.agg #[I a,I b,.slice c d e],.slice m f n] b6 (fun b7 b8=>∃ (M:OA) (N O:Nat) (Q:Int),b7= .tuple #[.slice M N O,I Q]/\FCall P f_FApply #[.agg #[I a,I b,.slice c d e],.slice m f n] b8 (fun b9 c0=>∃ (R:OA) (S T:Nat) (V:Int),b9= .tuple #[.slice R S T,I V]/\FCall P f_KMatrices #[.agg #[I y,I z,.slice A B C],.agg #[I E,I F,.slice G H J]] c0 (fun c1 p=>∃ (W:Bool),c1= .bool W/\Br W (Br (D==L) (FCall P f_KStrings #[.slice M N O,.slice R S T] p (fun c2 q=>∃ (X:Bool),c2= .bool X/\Br X (Br (Q==V) (FCall P f_LAwake #[] q (fun c3 c4=>∃ (Z:Bool),c3= .bool Z/\K (.bool Z) c4))
 (K (.bool false) q))
 (K (.bool false) q)))
 (K (.bool false) p))
 (K (.bool false) p)))))))))))))
theorem LMatrixProducts_ok(a:Int)(b:Int)(d:OA)(e f:Nat)(g:Int)(i:Int)(j:OA)(k l:Nat)(m:OA)(o p:Nat)(hvc:LMatrixProducts Tryz.prog a b d e f g i j k l m o p h K):FCall Tryz.prog f_LMatrixProducts #[.agg #[I a,I b,.slice d e f],.agg #[I g,I i,.slice j k l],.slice m o p] h K:=
 fn_sound Tryz.func5 (c:=codeOf Tryz.f5) (by kernel_rfl) (rs:=[.tmp 6]) (by kernel_rfl) (fa:={ loops:=[],cuts:=[],orders:=[] })
  (cfg:={ n:=79,own:=[3,4,7,9],lim:=none,fns:=[13,14,20,22,25,33,34,35,36],wr:=[] }) (args:=[.agg #[I a,I b,.slice d e f],.agg #[I g,I i,.slice j k l],.slice m o p]) (by kernel_rfl) (Bodies.cons Tryz.call13 (Bodies.cons Tryz.call14 (Bodies.cons Tryz.call20 (Bodies.cons Tryz.call22 (Bodies.cons Tryz.call25 (Bodies.cons Tryz.call33 (Bodies.cons Tryz.call34 (Bodies.cons Tryz.call35 (Bodies.cons Tryz.call36 Bodies.nil))))))))) (Eq.mp (by kernel_rfl:LMatrixProducts Tryz.prog a b d e f g i j k l m o p h K=_) hvc)
end Go.Proofs.YthilnfgnpdeofaaGreatDoor
