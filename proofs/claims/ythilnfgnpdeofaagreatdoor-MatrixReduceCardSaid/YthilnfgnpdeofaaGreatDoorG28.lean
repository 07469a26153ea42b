/-
  Texts of this proof, merged by a program of ours: VcM.
-/
import Derived.Test.YthilnfgnpdeofaaGreatDoorProg
import Derived.Test.YthilnfgnpdeofaaGreatDoorG05
import Derived.Test.YthilnfgnpdeofaaGreatDoorG12
import Derived.Test.YthilnfgnpdeofaaGreatDoorG06
import Derived.Test.YthilnfgnpdeofaaGreatDoorG09
import Derived.Test.YthilnfgnpdeofaaGreatDoorG26
import Derived.Test.YthilnfgnpdeofaaGreatDoorG08
/-
 Written by wip/tools/vcgen.py: what is asked of each function's body;each equation is checked by the kernel.
-/
namespace Go.Proofs.YthilnfgnpdeofaaGreatDoor
open Go
set_option maxRecDepth 100000
set_option linter.unusedVariables false
variable {h:Heap} {K:Value->Heap->Prop}
abbrev f_TReadAll:Nat:=79
abbrev f_TStrings:Nat:=81
abbrev f_TCommonDenominator:Nat:=132
abbrev f_TWhole:Nat:=96
abbrev f_RScaled:Nat:=133
abbrev f_MValid:Nat:=43
abbrev f_MHasShape:Nat:=108
abbrev f_MRead:Nat:=67
abbrev f_MWrite:Nat:=71
abbrev f_MNew:Nat:=49
abbrev f_MIdentity:Nat:=51
abbrev f_MAt:Nat:=54
abbrev f_MTranspose:Nat:=45
abbrev f_MAdd:Nat:=57
abbrev f_MSub:Nat:=60
abbrev f_MCombine:Nat:=116
abbrev f_MScale:Nat:=46
abbrev f_MMul:Nat:=33
abbrev f_MApply:Nat:=35
abbrev f_MNewVector:Nat:=94
abbrev f_MVectors:Nat:=91
abbrev f_MReduce:Nat:=15
abbrev f_MRank:Nat:=17
abbrev f_MDet:Nat:=37
abbrev f_MInverse:Nat:=39
abbrev f_MSolve:Nat:=23
abbrev f_MKernel:Nat:=18
abbrev f_MLU:Nat:=41
abbrev f_MSolve1:Nat:=80
abbrev f_MTransposeS:Nat:=111
abbrev f_MTransposeQ:Nat:=82
abbrev f_MTimes:Nat:=92
abbrev f_MNewTable:Nat:=68
abbrev f_BRow:Nat:=76
abbrev f_BSwap:Nat:=102
abbrev f_BFind:Nat:=101
abbrev f_BClear:Nat:=104
abbrev f_BReduce:Nat:=69
abbrev f_BMerge:Nat:=270
abbrev f_MChunk:Nat:=131
abbrev f_MChunk1:Nat:=174
abbrev f_MContains:Nat:=74
abbrev f_MIndex:Nat:=141
abbrev f_MConcat:Nat:=113
abbrev f_MRepeat:Nat:=114
abbrev f_MGrow:Nat:=164
abbrev f_FValid:Nat:=53
abbrev f_FRows:Nat:=27
abbrev f_FPack:Nat:=73
abbrev f_FBlank:Nat:=89
abbrev f_FUnit:Nat:=115
abbrev f_FCopy:Nat:=105
abbrev f_FTurn:Nat:=31
abbrev f_FTimes:Nat:=93
abbrev f_FDot:Nat:=29
abbrev f_FAct:Nat:=30
abbrev f_FEchelon:Nat:=72
abbrev f_FNew:Nat:=50
abbrev f_FIdentity:Nat:=52
abbrev f_FAt:Nat:=55
abbrev f_FTranspose:Nat:=56
abbrev f_FCombine:Nat:=58
abbrev f_FScale:Nat:=61
abbrev f_FMul:Nat:=34
abbrev f_FApply:Nat:=36
abbrev f_FReduce:Nat:=16
abbrev f_FDet:Nat:=38
abbrev f_FInvert:Nat:=99
abbrev f_FInverse:Nat:=40
abbrev f_FNull:Nat:=78
abbrev f_FKernel:Nat:=19
abbrev f_FSolution:Nat:=83
abbrev f_FSolve:Nat:=24
abbrev f_FLU:Nat:=42
abbrev f_KShort:Nat:=22
abbrev f_KSmallMatrix:Nat:=48
abbrev f_KStrings:Nat:=25
abbrev f_KInts:Nat:=21
abbrev f_KMatrices:Nat:=20
abbrev f_KOwnMatrix:Nat:=44
abbrev f_KOwn:Nat:=110
abbrev f_KSpoil:Nat:=47
abbrev f_KMod:Nat:=64
abbrev f_LAwake:Nat:=14
abbrev f_LSmall:Nat:=13
abbrev f_LMatrixNew:Nat:=9
abbrev f_LMatrixLinear:Nat:=10
abbrev f_LMatrixProducts:Nat:=5
abbrev f_LMatrixReduce:Nat:=3
abbrev f_LMatrixInverse:Nat:=6
abbrev f_LMatrixSolve:Nat:=4
abbrev f_LMatrixRing:Nat:=8
abbrev f_LMatrixDeterminant:Nat:=12
abbrev f_LMatrixFactors:Nat:=11
abbrev f_LMatrixOwn:Nat:=7
abbrev ty_tSum:Nat:=185
abbrev ty_tTable:Nat:=99
abbrev ty_tPTable:Nat:=90
abbrev ty_tMat:Nat:=24
abbrev ty_tVec:Nat:=126
abbrev ty_tInts:Nat:=27
abbrev ty_tInts_e:Nat:=3
theorem tInts:SliceT Tryz.prog ty_tInts ty_tInts_e (I 0) 1 8:=⟨by kernel_rfl,by kernel_rfl,rfl,by decide⟩
abbrev ty_tRqs:Nat:=87
abbrev ty_tRqs_e:Nat:=101
theorem tRqs:SliceT Tryz.prog ty_tRqs ty_tRqs_e (.agg #[.bool false,.slice none 0 0,.bool false,.slice none 0 0]) 4 64:=⟨by kernel_rfl,by kernel_rfl,rfl,by decide⟩
theorem tRqs_one:Tryz.prog.cellsOf ty_tRqs_e=4/\(Tryz.prog.info? ty_tRqs_e).isSome=true:=⟨by kernel_rfl,by kernel_rfl⟩
abbrev ty_tZs:Nat:=97
abbrev ty_tZs_e:Nat:=94
theorem tZs:SliceT Tryz.prog ty_tZs ty_tZs_e (.agg #[.bool false,.slice none 0 0]) 2 32:=⟨by kernel_rfl,by kernel_rfl,rfl,by decide⟩
theorem tZs_one:Tryz.prog.cellsOf ty_tZs_e=2/\(Tryz.prog.info? ty_tZs_e).isSome=true:=⟨by kernel_rfl,by kernel_rfl⟩
abbrev ty_tQss:Nat:=46
abbrev ty_tQss_e:Nat:=43
theorem tQss:SliceT Tryz.prog ty_tQss ty_tQss_e (.slice none 0 0) 1 24:=⟨by kernel_rfl,by kernel_rfl,rfl,by decide⟩
theorem tQss_one:Tryz.prog.cellsOf ty_tQss_e=1/\(Tryz.prog.info? ty_tQss_e).isSome=true:=⟨by kernel_rfl,by kernel_rfl⟩
abbrev ty_tVecs:Nat:=123
abbrev ty_tVecs_e:Nat:=126
abbrev ty_tStrss:Nat:=71
abbrev ty_tStrss_e:Nat:=22
def TReadAll(P:Program)(x:OA)(c B:Nat)(h:Heap)(K:Value->Heap->Prop):Prop:=
 wpH P (Instr.makeSlice 87 (I (c:Int)) (I (c:Int))) (fun y z=>∃ (d:OA) (e g:Nat),y= .slice d e g/\∃ (f:List Value->Heap->Prop) (i:List Value->Heap->Nat),f [I 0] z/\
 ∀ (a:Int),∀ b,f [I a] b->Br (decide (a<(c:Int))) (∃ v,x=some v/\0<=a/\a<(c:Int)/\∃ (j:ByteArray),b.cell? (v.add (a.toNat*1))=some (.string j)/\FCall P f_TRead #[.string j] b (fun A t=>∃ (k:Bool) (l:OA) (m n:Nat) (o:Bool) (p:OA) (q r:Nat) (s:Bool),A= .tuple #[.agg #[.bool k,.slice l m n,.bool o,.slice p q r],.bool s]/\Br (!s) (K (.tuple #[.slice none 0 0,.bool false]) t)
 (∃ w,d=some w/\0<=a/\a<(e:Int)/\wpH P (Instr.storeAt 101 (.pointer (some (w.add (a.toNat*4)))) (.agg #[.bool k,.slice l m n,.bool o,.slice p q r])) (fun _ u=>f [I (wi64 (a+1))] u/\i [I (wi64 (a+1))] u<i [I a] b) t)))
 (K (.tuple #[.slice d e g,.bool true]) b)) h
theorem TReadAll_ok(a:OA)(b d:Nat)(hvc:TReadAll Tryz.prog a b d h K):FCall Tryz.prog f_TReadAll #[.slice a b d] h K:=
 fn_sound Tryz.func79 (c:=codeOf Tryz.f79) (by kernel_rfl) (rs:=[.tmp 2,.tmp 3]) (by kernel_rfl) (fa:={ loops:=[(3,{ slots:=[14],owns:=[],zs:=[.int .i64 0],lim:={ slots:=([2,3,5,6,7,8]++List.range' 14 17),keys:=[7] } })],cuts:=[],orders:=[] })
  (cfg:={ n:=32,own:=[7],lim:=none,fns:=[112],wr:=[] }) (args:=[.slice a b d]) (by kernel_rfl) (Bodies.cons Tryz.call112 Bodies.nil) (Eq.mp (by kernel_rfl:TReadAll Tryz.prog a b d h K=_) hvc)
def TStrings(P:Program)(v:OA)(d A:Nat)(h:Heap)(K:Value->Heap->Prop):Prop:=
 wpH P (Instr.makeSlice 22 (I (d:Int)) (I (d:Int))) (fun w x=>∃ (e:OA) (f i:Nat),w= .slice e f i/\∃ (g:List Value->Heap->Prop) (j:List Value->Heap->Nat),g [I 0] x/\
 ∀ (a:Int),∀ b,g [I a] b->Br (decide (a<(d:Int))) (∃ c,v=some c/\0<=a/\a<(d:Int)/\∃ (k:Bool) (l:OA) (m n:Nat) (o:Bool) (p:OA) (q r:Nat),b.cell? (Addr.add (c.add (a.toNat*4)) 0)=some (.bool k)/\b.cell? (Addr.add (c.add (a.toNat*4)) 1)=some (.slice l m n)/\b.cell? (Addr.add (c.add (a.toNat*4)) 2)=some (.bool o)/\b.cell? (Addr.add (c.add (a.toNat*4)) 3)=some (.slice p q r)/\FCall P f_RString #[.agg #[.bool k,.slice l m n,.bool o,.slice p q r]] b (fun y z=>∃ (s:ByteArray),y= .string s/\∃ u,e=some u/\0<=a/\a<(f:Int)/\wpH P (Instr.storeAt 9 (.pointer (some (u.add (a.toNat*1)))) (.string s)) (fun _ t=>g [I (wi64 (a+1))] t/\j [I (wi64 (a+1))] t<j [I a] b) z))
 (K (.slice e f i) b)) h
theorem TStrings_ok(a:OA)(b d:Nat)(hvc:TStrings Tryz.prog a b d h K):FCall Tryz.prog f_TStrings #[.slice a b d] h K:=
 fn_sound Tryz.func81 (c:=codeOf Tryz.f81) (by kernel_rfl) (rs:=[.tmp 2]) (by kernel_rfl) (fa:={ loops:=[(3,{ slots:=[11],owns:=[],zs:=[.int .i64 0],lim:={ slots:=([4,5]++List.range' 11 11),keys:=[5] } })],cuts:=[],orders:=[] })
  (cfg:={ n:=23,own:=[5],lim:=none,fns:=[95],wr:=[] }) (args:=[.slice a b d]) (by kernel_rfl) (Bodies.cons Tryz.call95 Bodies.nil) (Eq.mp (by kernel_rfl:TStrings Tryz.prog a b d h K=_) hvc)
def TCommonDenominator(P:Program)(C:OA)(u O:Nat)(h:Heap)(K:Value->Heap->Prop):Prop:=
 FCall P f_WNew #[I 1] h (fun H J=>∃ (v:Bool) (w:OA) (x y:Nat),H= .agg #[.bool v,.slice w x y]/\∃ (i:List Value->Heap->Prop) (g:List Value->Heap->Nat),i [I 0,.bool v,.slice w x y] J/\
 ∀ (a:Int) (b:Bool) (c:OA) (d e:Nat),∀ f,i [I a,.bool b,.slice c d e] f->Br (decide (a<(u:Int))) (∃ j,C=some j/\0<=a/\a<(u:Int)/\∃ (D:Bool) (E:OA) (F G:Nat) (k:Bool) (l:OA) (m n:Nat),f.cell? (Addr.add (j.add (a.toNat*4)) 0)=some (.bool D)/\f.cell? (Addr.add (j.add (a.toNat*4)) 1)=some (.slice E F G)/\f.cell? (Addr.add (j.add (a.toNat*4)) 2)=some (.bool k)/\f.cell? (Addr.add (j.add (a.toNat*4)) 3)=some (.slice l m n)/\FCall P f_ZIsZero #[.agg #[.bool k,.slice l m n]] f (fun L s=>∃ (z:Bool),L= .bool z/\Br (!z) (FCall P f_ZEqual #[.agg #[.bool k,.slice l m n],.agg #[.bool b,.slice c d e]] s (fun M t=>∃ (A:Bool),M= .bool A/\Br (!A) (FCall P f_ZLCM #[.agg #[.bool b,.slice c d e],.agg #[.bool k,.slice l m n]] t (fun N B=>∃ (o:Bool) (p:OA) (q r:Nat),N= .agg #[.bool o,.slice p q r]/\i [I (wi64 (a+1)),.bool o,.slice p q r] B/\g [I (wi64 (a+1)),.bool o,.slice p q r] B<g [I a,.bool b,.slice c d e] f))
 (i [I (wi64 (a+1)),.bool b,.slice c d e] t/\g [I (wi64 (a+1)),.bool b,.slice c d e] t<g [I a,.bool b,.slice c d e] f)))
 (i [I (wi64 (a+1)),.bool b,.slice c d e] s/\g [I (wi64 (a+1)),.bool b,.slice c d e] s<g [I a,.bool b,.slice c d e] f)))
 (K (.agg #[.bool b,.slice c d e]) f))
theorem TCommonDenominator_ok(a:OA)(b d:Nat)(hvc:TCommonDenominator Tryz.prog a b d h K):FCall Tryz.prog f_TCommonDenominator #[.slice a b d] h K:=
 fn_sound Tryz.func132 (c:=codeOf Tryz.f132) (by kernel_rfl) (rs:=[.cell 2 94]) (by kernel_rfl) (fa:={ loops:=[(3,{ slots:=[9],owns:=[(3,2)],zs:=[.int .i64 0,.bool false,.slice none 0 0],lim:={ slots:=([5]++List.range' 9 20),keys:=[3,5] } })],cuts:=[],orders:=[] })
  (cfg:={ n:=30,own:=[2,3,5],lim:=none,fns:=[100,135,175,176],wr:=[] }) (args:=[.slice a b d]) (by kernel_rfl) (Bodies.cons Tryz.call100 (Bodies.cons Tryz.call135 (Bodies.cons Tryz.call175 (Bodies.cons Tryz.call176 Bodies.nil)))) (Eq.mp (by kernel_rfl:TCommonDenominator Tryz.prog a b d h K=_) hvc)
def TWhole(P:Program)(a:Bool)(b:OA)(c d:Nat)(h:Heap)(K:Value->Heap->Prop):Prop:=
 K (.agg #[.bool a,.slice b c d,.bool false,.slice none 0 0]) h
theorem TWhole_ok(a:Bool)(b:OA)(d e:Nat)(hvc:TWhole Tryz.prog a b d e h K):FCall Tryz.prog f_TWhole #[.agg #[.bool a,.slice b d e]] h K:=
 fn_sound Tryz.func96 (c:=codeOf Tryz.f96) (by kernel_rfl) (rs:=[.cell 2 101]) (by kernel_rfl) (fa:={ loops:=[],cuts:=[],orders:=[] })
  (cfg:={ n:=5,own:=[1,2],lim:=none,fns:=[],wr:=[] }) (args:=[.agg #[.bool a,.slice b d e]]) (by kernel_rfl) Bodies.nil (Eq.mp (by kernel_rfl:TWhole Tryz.prog a b d e h K=_) hvc)
def RScaled(P:Program)(c:Bool)(d:OA)(e f:Nat)(g:Bool)(i:OA)(j k:Nat)(l:Bool)(m:OA)(n o:Nat)(h:Heap)(K:Value->Heap->Prop):Prop:=
 FCall P f_ZIsZero #[.agg #[.bool g,.slice i j k]] h (fun D a=>∃ (p:Bool),D= .bool p/\Br p (FCall P f_ZMul #[.agg #[.bool c,.slice d e f],.agg #[.bool l,.slice m n o]] a (fun E F=>∃ (q:Bool) (r:OA) (s t:Nat),E= .agg #[.bool q,.slice r s t]/\K (.agg #[.bool q,.slice r s t]) F))
 (FCall P f_ZQuo #[.agg #[.bool l,.slice m n o],.agg #[.bool g,.slice i j k]] a (fun G b=>∃ (u:Bool) (v:OA) (w x:Nat),G= .agg #[.bool u,.slice v w x]/\Heap.le a b/\FCall P f_ZMul #[.agg #[.bool c,.slice d e f],.agg #[.bool u,.slice v w x]] b (fun H C=>∃ (y:Bool) (z:OA) (A B:Nat),H= .agg #[.bool y,.slice z A B]/\Heap.le b C/\K (.agg #[.bool y,.slice z A B]) C))))
theorem RScaled_ok(a:Bool)(b:OA)(d e:Nat)(f:Bool)(g:OA)(i j:Nat)(k:Bool)(l:OA)(m o:Nat)(hvc:RScaled Tryz.prog a b d e f g i j k l m o h K):FCall Tryz.prog f_RScaled #[.agg #[.bool a,.slice b d e,.bool f,.slice g i j],.agg #[.bool k,.slice l m o]] h K:=
 fn_sound Tryz.func133 (c:=codeOf Tryz.f133) (by kernel_rfl) (rs:=[.cell 4 94]) (by kernel_rfl) (fa:={ loops:=[],cuts:=[],orders:=[(3,((List.range' 0 8),[[],[0],[],[],[3],[2,3,4],[0,1,2,3,4,5],[0,1,2,3,4,5,6]]))] })
  (cfg:={ n:=19,own:=[2,3,4],lim:=none,fns:=[135,136,152],wr:=[] }) (args:=[.agg #[.bool a,.slice b d e,.bool f,.slice g i j],.agg #[.bool k,.slice l m o]]) (by kernel_rfl) (Bodies.cons Tryz.call135 (Bodies.cons Tryz.call136 (Bodies.cons Tryz.call152 Bodies.nil))) (Eq.mp (by kernel_rfl:RScaled Tryz.prog a b d e f g i j k l m o h K=_) hvc)
def MHasShape(P:Program)(a:Int)(b:Int)(d:OA)(c e:Nat)(h:Heap)(K:Value->Heap->Prop):Prop:=
 Br (decide ((1:Int)<=a)) (Br (decide (a<=(64:Int))) (Br (decide ((1:Int)<=b)) (Br (decide (b<=(64:Int))) (K (.bool ((c:Int)==(wi64 (a*b)))) h)
 (K (.bool false) h))
 (K (.bool false) h))
 (K (.bool false) h))
 (K (.bool false) h)
theorem MHasShape_ok(a:Int)(b:Int)(d:OA)(e f:Nat)(hvc:MHasShape Tryz.prog a b d e f h K):FCall Tryz.prog f_MHasShape #[.agg #[I a,I b,.slice d e f]] h K:=
 fn_sound Tryz.func108 (c:=codeOf Tryz.f108) (by kernel_rfl) (rs:=[.tmp 2]) (by kernel_rfl) (fa:={ loops:=[],cuts:=[],orders:=[] })
  (cfg:={ n:=32,own:=[1],lim:=none,fns:=[],wr:=[] }) (args:=[.agg #[I a,I b,.slice d e f]]) (by kernel_rfl) Bodies.nil (Eq.mp (by kernel_rfl:MHasShape Tryz.prog a b d e f h K=_) hvc)
def MRead(P:Program)(k:Int)(l:Int)(a:OA)(b c:Nat)(h:Heap)(K:Value->Heap->Prop):Prop:=
 FCall P f_MHasShape #[.agg #[I k,I l,.slice a b c]] h (fun m j=>∃ (d:Bool),m= .bool d/\Br (!d) (K (.tuple #[.slice none 0 0,.bool false]) j)
 (FCall P f_TReadAll #[.slice a b c] j (fun n o=>∃ (e:OA) (f g:Nat) (i:Bool),n= .tuple #[.slice e f g,.bool i]/\K (.tuple #[.slice e f g,.bool i]) o)))
theorem MRead_ok(a:Int)(b:Int)(d:OA)(e f:Nat)(hvc:MRead Tryz.prog a b d e f h K):FCall Tryz.prog f_MRead #[.agg #[I a,I b,.slice d e f]] h K:=
 fn_sound Tryz.func67 (c:=codeOf Tryz.f67) (by kernel_rfl) (rs:=[.tmp 2,.tmp 3]) (by kernel_rfl) (fa:={ loops:=[],cuts:=[],orders:=[] })
  (cfg:={ n:=12,own:=[1],lim:=none,fns:=[79,108],wr:=[] }) (args:=[.agg #[I a,I b,.slice d e f]]) (by kernel_rfl) (Bodies.cons Tryz.call79 (Bodies.cons Tryz.call108 Bodies.nil)) (Eq.mp (by kernel_rfl:MRead Tryz.prog a b d e f h K=_) hvc)
def MWrite(P:Program)(d:Int)(e:Int)(f:OA)(g i:Nat)(h:Heap)(K:Value->Heap->Prop):Prop:=
 FCall P f_TStrings #[.slice f g i] h (fun j k=>∃ (a:OA) (b c:Nat),j= .slice a b c/\K (.agg #[I d,I e,.slice a b c]) k)
theorem MWrite_ok(a:Int)(b:Int)(d:OA)(e f:Nat)(hvc:MWrite Tryz.prog a b d e f h K):FCall Tryz.prog f_MWrite #[I a,I b,.slice d e f] h K:=
 fn_sound Tryz.func71 (c:=codeOf Tryz.f71) (by kernel_rfl) (rs:=[.cell 6 24]) (by kernel_rfl) (fa:={ loops:=[],cuts:=[],orders:=[] })
  (cfg:={ n:=12,own:=[6],lim:=none,fns:=[81],wr:=[] }) (args:=[I a,I b,.slice d e f]) (by kernel_rfl) (Bodies.cons Tryz.call81 Bodies.nil) (Eq.mp (by kernel_rfl:MWrite Tryz.prog a b d e f h K=_) hvc)
def MReduce(P:Program)(l:Int)(c:Int)(W:OA)(X Z:Nat)(h:Heap)(K:Value->Heap->Prop):Prop:=
 FCall P f_MRead #[.agg #[I l,I c,.slice W X Z]] h (fun a2 Q=>∃ (d:OA) (e f:Nat) (m:Bool),a2= .tuple #[.slice d e f,.bool m]/\Br (!m) (K (.tuple #[.agg #[I 0,I 0,.slice none 0 0],.slice none 0 0,I 1]) Q)
 (FCall P f_MNewTable #[.slice d e f,I c] Q (fun a3 a4=>∃ (g:OA),a3= .pointer g/\FCall P f_BReduce #[.pointer g,I c] a4 (fun a5 R=>∃ (n:OA) (o p:Nat) (q:Bool) (r:OA) (s t:Nat) (a0:Int),a5= .tuple #[.slice n o p,.agg #[.bool q,.slice r s t],I a0]/\∃ T,g=some T/\∃ (u:OA) (i a1:Nat),R.cell? (T.add 1)=some (.slice u i a1)/\∃ (j:List Value->Heap->Prop) (v:List Value->Heap->Nat),j [I 0] R/\
 ∀ (a:Int),∀ b,j [I a] b->Br (decide (a<(i:Int))) (∃ k,u=some k/\0<=a/\a<(i:Int)/\∃ (w:Bool) (x:OA) (y z:Nat),b.cell? (Addr.add (k.add (a.toNat*2)) 0)=some (.bool w)/\b.cell? (Addr.add (k.add (a.toNat*2)) 1)=some (.slice x y z)/\FCall P f_TFraction #[.agg #[.bool w,.slice x y z],.agg #[.bool q,.slice r s t]] b (fun a6 a7=>∃ (A:Bool) (B:OA) (C D:Nat) (E:Bool) (F:OA) (G H:Nat),a6= .agg #[.bool A,.slice B C D,.bool E,.slice F G H]/\∃ V,d=some V/\0<=a/\a<(e:Int)/\wpH P (Instr.storeAt 101 (.pointer (some (V.add (a.toNat*4)))) (.agg #[.bool A,.slice B C D,.bool E,.slice F G H])) (fun _ S=>j [I (wi64 (a+1))] S/\v [I (wi64 (a+1))] S<v [I a] b) a7))
 (FCall P f_MWrite #[I l,I c,.slice d e f] b (fun a8 a9=>∃ (J:Int) (L:Int) (M:OA) (N O:Nat),a8= .agg #[I J,I L,.slice M N O]/\K (.tuple #[.agg #[I J,I L,.slice M N O],.slice n o p,I 0]) a9))))))
theorem MReduce_ok(a:Int)(b:Int)(d:OA)(e f:Nat)(hvc:MReduce Tryz.prog a b d e f h K):FCall Tryz.prog f_MReduce #[.agg #[I a,I b,.slice d e f]] h K:=
 fn_sound Tryz.func15 (c:=codeOf Tryz.f15) (by kernel_rfl) (rs:=[.cell 2 24,.tmp 3,.tmp 4]) (by kernel_rfl) (fa:={ loops:=[(7,{ slots:=[38],owns:=[],zs:=[.int .i64 0],lim:={ slots:=([11,12]++List.range' 38 12),keys:=[12] } })],cuts:=[],orders:=[] })
  (cfg:={ n:=57,own:=[1,2,9,12],lim:=none,fns:=[67,68,69,70,71],wr:=[69] }) (args:=[.agg #[I a,I b,.slice d e f]]) (by kernel_rfl) (Bodies.cons Tryz.call67 (Bodies.cons Tryz.call68 (Bodies.cons Tryz.call69 (Bodies.cons Tryz.call70 (Bodies.cons Tryz.call71 Bodies.nil))))) (Eq.mp (by kernel_rfl:MReduce Tryz.prog a b d e f h K=_) hvc)
def MRank(P:Program)(k:Int)(a:Int)(l:OA)(m n:Nat)(h:Heap)(K:Value->Heap->Prop):Prop:=
 FCall P f_MRead #[.agg #[I k,I a,.slice l m n]] h (fun v b=>∃ (c:OA) (d e:Nat) (f:Bool),v= .tuple #[.slice c d e,.bool f]/\Br (!f) (K (.tuple #[I 0,I 1]) b)
 (FCall P f_MNewTable #[.slice c d e,I a] b (fun w j=>∃ (g:OA),w= .pointer g/\Heap.le b j/\FCall P f_BReduce #[.pointer g,I a] j (fun x y=>∃ (o:OA) (i p:Nat) (q:Bool) (r:OA) (s t:Nat) (u:Int),x= .tuple #[.slice o i p,.agg #[.bool q,.slice r s t],I u]/\K (.tuple #[I (i:Int),I 0]) y))))
theorem MRank_ok(a:Int)(b:Int)(d:OA)(e f:Nat)(hvc:MRank Tryz.prog a b d e f h K):FCall Tryz.prog f_MRank #[.agg #[I a,I b,.slice d e f]] h K:=
 fn_sound Tryz.func17 (c:=codeOf Tryz.f17) (by kernel_rfl) (rs:=[.tmp 2,.tmp 3]) (by kernel_rfl) (fa:={ loops:=[],cuts:=[],orders:=[(4,([0,1,2,4,5,11,3,6,7,8,9,10,12,13,14],[[],[],[1],[0,1,2],[],[4],[0,1,2,3,4,5],[0,1,2,3,4,5,6],(List.range' 0 8),(List.range' 0 8),(List.range' 0 8),[],(List.range' 0 9++[11]),(List.range' 0 10++[11,12]),(List.range' 0 14)]))] })
  (cfg:={ n:=29,own:=[1,7],lim:=none,fns:=[67,68,69],wr:=[69] }) (args:=[.agg #[I a,I b,.slice d e f]]) (by kernel_rfl) (Bodies.cons Tryz.call67 (Bodies.cons Tryz.call68 (Bodies.cons Tryz.call69 Bodies.nil))) (Eq.mp (by kernel_rfl:MRank Tryz.prog a b d e f h K=_) hvc)
def MDet(P:Program)(n:Int)(d:Int)(d0:OA)(d1 d2:Nat)(h:Heap)(K:Value->Heap->Prop):Prop:=
 FCall P f_MRead #[.agg #[I n,I d,.slice d0 d1 d2]] h (fun d6 J=>∃ (M:OA) (N O:Nat) (Q:Bool),d6= .tuple #[.slice M N O,.bool Q]/\Br (!Q) (K (.tuple #[.string ({ data:=#[] }:ByteArray),I 1]) J)
 (Br (n != d) (K (.tuple #[.string ({ data:=#[] }:ByteArray),I 4]) J)
 (FCall P f_MNewTable #[.slice M N O,I d] J (fun d7 d8=>∃ (o:OA),d7= .pointer o/\FCall P f_BReduce #[.pointer o,I d] d8 (fun d9 c6=>∃ (d3:OA) (R d4:Nat) (S:Bool) (T:OA) (V W:Nat) (X:Int),d9= .tuple #[.slice d3 R d4,.agg #[.bool S,.slice T V W],I X]/\Br (decide ((R:Int)<n)) (K (.tuple #[.string ({ data:=#[48] }:ByteArray),I 0]) c6)
 (FCall P f_TWhole #[.agg #[.bool S,.slice T V W]] c6 (fun e0 c7=>∃ (p:Bool) (q:OA) (r s:Nat) (t:Bool) (u:OA) (v w:Nat),e0= .agg #[.bool p,.slice q r s,.bool t,.slice u v w]/\∃ (x:List Value->Heap->Prop),(Br (decide (X<(0:Int))) (FCall P f_RNeg #[.agg #[.bool p,.slice q r s,.bool t,.slice u v w]] c7 (fun e1 e2=>∃ (Z:Bool) (a0:OA) (a1 a2:Nat) (a3:Bool) (a4:OA) (a5 a6:Nat),e1= .agg #[.bool Z,.slice a0 a1 a2,.bool a3,.slice a4 a5 a6]/\x [.bool Z,.slice a0 a1 a2,.bool a3,.slice a4 a5 a6] e2))
 (x [.bool p,.slice q r s,.bool t,.slice u v w] c7))/\
 ∀ (a7:Bool) (a8:OA) (a9 b0:Nat) (b1:Bool) (b2:OA) (b3 b4:Nat),∀ L,x [.bool a7,.slice a8 a9 b0,.bool b1,.slice b2 b3 b4] L->∃ c9,o=some c9/\∃ (b5:OA) (y d5:Nat),L.cell? (c9.add 2)=some (.slice b5 y d5)/\∃ (z:List Value->Heap->Prop) (b6:List Value->Heap->Nat),z [I 0,.bool a7,.slice a8 a9 b0,.bool b1,.slice b2 b3 b4] L/\
 ∀ (a:Int) (e:Bool) (f:OA) (g i:Nat) (j:Bool) (k:OA) (l m:Nat),∀ b,z [I a,.bool e,.slice f g i,.bool j,.slice k l m] b->Br (decide (a<(y:Int))) (∃ c,b5=some c/\0<=a/\a<(y:Int)/\∃ (b7:Bool) (b8:OA) (b9 c0:Nat) (c1:Bool) (c2:OA) (c3 c4:Nat),b.cell? (Addr.add (c.add (a.toNat*4)) 0)=some (.bool b7)/\b.cell? (Addr.add (c.add (a.toNat*4)) 1)=some (.slice b8 b9 c0)/\b.cell? (Addr.add (c.add (a.toNat*4)) 2)=some (.bool c1)/\b.cell? (Addr.add (c.add (a.toNat*4)) 3)=some (.slice c2 c3 c4)/\FCall P f_RDiv #[.agg #[.bool e,.slice f g i,.bool j,.slice k l m],.agg #[.bool b7,.slice b8 b9 c0,.bool c1,.slice c2 c3 c4]] b (fun e3 c8=>∃ (A:Bool) (B:OA) (C D:Nat) (E:Bool) (F:OA) (G H:Nat),e3= .agg #[.bool A,.slice B C D,.bool E,.slice F G H]/\z [I (wi64 (a+1)),.bool A,.slice B C D,.bool E,.slice F G H] c8/\b6 [I (wi64 (a+1)),.bool A,.slice B C D,.bool E,.slice F G H] c8<b6 [I a,.bool e,.slice f g i,.bool j,.slice k l m] b))
 (FCall P f_RString #[.agg #[.bool e,.slice f g i,.bool j,.slice k l m]] b (fun e4 e5=>∃ (c5:ByteArray),e4= .string c5/\K (.tuple #[.string c5,I 0]) e5)))))))))
theorem MDet_ok(a:Int)(b:Int)(d:OA)(e f:Nat)(hvc:MDet Tryz.prog a b d e f h K):FCall Tryz.prog f_MDet #[.agg #[I a,I b,.slice d e f]] h K:=
 fn_sound Tryz.func37 (c:=codeOf Tryz.f37) (by kernel_rfl) (rs:=[.tmp 2,.tmp 3]) (by kernel_rfl) (fa:={ loops:=[(14,{ slots:=[53],owns:=[(10,4)],zs:=[.int .i64 0,.bool false,.slice none 0 0,.bool false,.slice none 0 0],lim:={ slots:=([12]++List.range' 53 8),keys:=[10,12] } })],cuts:=[(13,{ slots:=[],owns:=[(10,4)],zs:=[.bool false,.slice none 0 0,.bool false,.slice none 0 0],lim:={ slots:=[44,45,46,47],keys:=[10] } })],orders:=[] })
  (cfg:={ n:=63,own:=[1,8,10,12],lim:=none,fns:=[67,68,69,95,96,97,98],wr:=[69] }) (args:=[.agg #[I a,I b,.slice d e f]]) (by kernel_rfl) (Bodies.cons Tryz.call67 (Bodies.cons Tryz.call68 (Bodies.cons Tryz.call69 (Bodies.cons Tryz.call95 (Bodies.cons Tryz.call96 (Bodies.cons Tryz.call97 (Bodies.cons Tryz.call98 Bodies.nil))))))) (Eq.mp (by kernel_rfl:MDet Tryz.prog a b d e f h K=_) hvc)
def MKernel(P:Program)(c9:Int)(b:Int)(d0:OA)(d1 d2:Nat)(h:Heap)(K:Value->Heap->Prop):Prop:=
 FCall P f_MRead #[.agg #[I c9,I b,.slice d0 d1 d2]] h (fun d5 c1=>∃ (z:OA) (A B:Nat) (C:Bool),d5= .tuple #[.slice z A B,.bool C]/\Br (!C) (K (.tuple #[.agg #[I 0,I 0,.slice none 0 0],I 1]) c1)
 (FCall P f_MNewTable #[.slice z A B,I b] c1 (fun d6 d7=>∃ (q:OA),d6= .pointer q/\FCall P f_BReduce #[.pointer q,I b] d7 (fun d8 c2=>∃ (r:OA) (g D:Nat) (E:Bool) (F:OA) (G H:Nat) (d3:Int),d8= .tuple #[.slice r g D,.agg #[.bool E,.slice F G H],I d3]/\Br ((g:Int)==b) (K (.tuple #[.agg #[I 0,I 0,.slice none 0 0],I 0]) c2)
 (∃ (l:List Value->Heap->Prop) (m:List Value->Heap->Nat),l [.slice none 0 0,I 0] c2/\
 ∀ (d:OA) (e f:Nat) (a:Int),∀ k,l [.slice d e f,I a] k->Br (decide (a<b)) (FCall P f_MContains #[.slice r g D,I a] k (fun d9 w=>∃ (J:Bool),d9= .bool J/\Br J (l [.slice d e f,I (wi64 (a+1))] w/\m [.slice d e f,I (wi64 (a+1))] w<m [.slice d e f,I a] k)
 (wpH P (Instr.makeSlice 87 (I b) (I b)) (fun e0 e1=>∃ (n:OA) (o L:Nat),e0= .slice n o L/\FCall P f_TSmall #[I 1] e1 (fun e2 e3=>∃ (M:Bool) (N:OA) (O Q:Nat) (R:Bool) (S:OA) (T V:Nat),e2= .agg #[.bool M,.slice N O Q,.bool R,.slice S T V]/\∃ c6,n=some c6/\0<=a/\a<(o:Int)/\wpH P (Instr.storeAt 101 (.pointer (some (c6.add (a.toNat*4)))) (.agg #[.bool M,.slice N O Q,.bool R,.slice S T V])) (fun _ e4=>∃ (s:List Value->Heap->Prop) (W:List Value->Heap->Nat),s [I 0] e4/\
 ∀ (c:Int),∀ i,s [I c] i->Br (decide (c<(g:Int))) (∃ c7,r=some c7/\0<=c/\c<(g:Int)/\∃ (p:Int),i.cell? (c7.add (c.toNat*1))=some (I p)/\FCall P f_BRow #[.pointer q,I c] i (fun e5 j=>∃ (X:OA) (Z d4:Nat),e5= .slice X Z d4/\Heap.le i j/\∃ y,X=some y/\0<=a/\a<(Z:Int)/\∃ (a0:Bool) (a1:OA) (a2 a3:Nat),j.cell? (Addr.add (y.add (a.toNat*2)) 0)=some (.bool a0)/\j.cell? (Addr.add (y.add (a.toNat*2)) 1)=some (.slice a1 a2 a3)/\FCall P f_ZNeg #[.agg #[.bool a0,.slice a1 a2 a3]] j (fun e6 x=>∃ (a4:Bool) (a5:OA) (a6 a7:Nat),e6= .agg #[.bool a4,.slice a5 a6 a7]/\Heap.le j x/\FCall P f_TFraction #[.agg #[.bool a4,.slice a5 a6 a7],.agg #[.bool E,.slice F G H]] x (fun e7 c3=>∃ (a8:Bool) (a9:OA) (b0 b1:Nat) (b2:Bool) (b3:OA) (b4 b5:Nat),e7= .agg #[.bool a8,.slice a9 b0 b1,.bool b2,.slice b3 b4 b5]/\Heap.le x c3/\∃ c8,n=some c8/\0<=p/\p<(o:Int)/\wpH P (Instr.storeAt 101 (.pointer (some (c8.add (p.toNat*4)))) (.agg #[.bool a8,.slice a9 b0 b1,.bool b2,.slice b3 b4 b5])) (fun _ c4=>s [I (wi64 (c+1))] c4/\W [I (wi64 (c+1))] c4<W [I c] i) c3))))
 (wpH P (Builtin.append_ #[87,87] 87 #[.slice d e f,.slice n o L]) (fun e8 c5=>∃ (t:OA) (u v:Nat),e8= .slice t u v/\l [.slice t u v,I (wi64 (a+1))] c5/\m [.slice t u v,I (wi64 (a+1))] c5<m [.slice d e f,I a] k) i)) e3)) w)))
 (FCall P f_MWrite #[I (wi64 (b-(g:Int))),I b,.slice d e f] k (fun e9 f0=>∃ (b6:Int) (b7:Int) (b8:OA) (b9 c0:Nat),e9= .agg #[I b6,I b7,.slice b8 b9 c0]/\K (.tuple #[.agg #[I b6,I b7,.slice b8 b9 c0],I 0]) f0)))))))
theorem MKernel_ok(a:Int)(b:Int)(d:OA)(e f:Nat)(hvc:MKernel Tryz.prog a b d e f h K):FCall Tryz.prog f_MKernel #[.agg #[I a,I b,.slice d e f]] h K:=
 fn_sound Tryz.func18 (c:=codeOf Tryz.f18) (by kernel_rfl) (rs:=[.cell 2 24,.tmp 3]) (by kernel_rfl) (fa:={ loops:=[(10,{ slots:=[10,43],owns:=[],zs:=[.slice none 0 0,.int .i64 0],lim:={ slots:=([10,11,12,13,14]++List.range' 43 37),keys:=[] } }),(16,{ slots:=[58],owns:=[],zs:=[.int .i64 0],lim:={ slots:=([13,14]++List.range' 58 18),keys:=[] } })],cuts:=[],orders:=[(18,([0,1,2,3,5,9,4,6,7,8,10,11,12],[[],[],[],[],[2,3],[],[2,3,4,5],[2,3,4,5,6],[2,3,4,5,6,7],[],(List.range' 2 8),(List.range' 0 11),(List.range' 0 12)]))] })
  (cfg:={ n:=89,own:=[1,2,8],lim:=none,fns:=[67,68,69,70,71,74,75,76,77],wr:=[69] }) (args:=[.agg #[I a,I b,.slice d e f]]) (by kernel_rfl) (Bodies.cons Tryz.call67 (Bodies.cons Tryz.call68 (Bodies.cons Tryz.call69 (Bodies.cons Tryz.call70 (Bodies.cons Tryz.call71 (Bodies.cons Tryz.call74 (Bodies.cons Tryz.call75 (Bodies.cons Tryz.call76 (Bodies.cons Tryz.call77 Bodies.nil))))))))) (Eq.mp (by kernel_rfl:MKernel Tryz.prog a b d e f h K=_) hvc)
def MNewTable(P:Program)(m3:OA)(m4 m5:Nat)(b7:Int)(h:Heap)(K:Value->Heap->Prop):Prop:=
 wpH P (Instr.box 99 (.agg #[I b7,.slice none 0 0,.slice none 0 0])) (fun n1 n2=>∃ (b8:Addr),n1= .pointer (some b8)/\wpH P (Instr.alloc 90 true (.tuple #[])) (fun n3 n4=>∃ (b:Addr),n3= .pointer (some b)/\wpH P (Instr.storeAt 90 (.pointer (some b)) (.pointer (some b8))) (fun _ n5=>FCall P f_MChunk #[.slice m3 m4 m5,I b7] n5 (fun n6 n7=>∃ (b9:Value),n6=b9/\RangeF P (b9) n7 (fun (m6:List Value) (m7:Heap) (x:Heap->Prop)=>∃ (W:OA) (y c0:Nat),m6=[.slice W y c0]/\FCall P f_TCommonDenominator #[.slice W y c0] m7 (fun n8 b4=>∃ (z:Bool) (A:OA) (B C:Nat),n8= .agg #[.bool z,.slice A B C]/\∃ (c1:OA),b4.cell? b=some (.pointer c1)/\∃ l0,c1=some l0/\∃ (m8:OA) (f m9:Nat),b4.cell? (l0.add 1)=some (.slice m8 f m9)/\∃ (s:List Value->Heap->Prop) (q:List Value->Heap->Nat),s [I 0,.bool false,.slice none 0 0] b4/\
 ∀ (a:Int) (g:Bool) (i:OA) (j k:Nat),∀ e,s [I a,.bool g,.slice i j k] e->Br (decide (a<(y:Int))) (∃ w,W=some w/\0<=a/\a<(y:Int)/\∃ (c2:Bool) (c3:OA) (c4 c5:Nat) (c6:Bool) (c7:OA) (c8 c9:Nat),e.cell? (Addr.add (w.add (a.toNat*4)) 0)=some (.bool c2)/\e.cell? (Addr.add (w.add (a.toNat*4)) 1)=some (.slice c3 c4 c5)/\e.cell? (Addr.add (w.add (a.toNat*4)) 2)=some (.bool c6)/\e.cell? (Addr.add (w.add (a.toNat*4)) 3)=some (.slice c7 c8 c9)/\FCall P f_RScaled #[.agg #[.bool c2,.slice c3 c4 c5,.bool c6,.slice c7 c8 c9],.agg #[.bool z,.slice A B C]] e (fun n9 o0=>∃ (D:Bool) (E:OA) (F G:Nat),n9= .agg #[.bool D,.slice E F G]/\FCall P f_ZGCD #[.agg #[.bool g,.slice i j k],.agg #[.bool D,.slice E F G]] o0 (fun o1 p=>∃ (l:Bool) (m:OA) (n o:Nat),o1= .agg #[.bool l,.slice m n o]/\∃ (d0:OA),p.cell? b=some (.pointer d0)/\∃ l1,d0=some l1/\∃ (H:OA) (J L:Nat),p.cell? (l1.add 1)=some (.slice H J L)/\(∃ (d1:OA),p.cell? b=some (.pointer d1)/\wpH P (Instr.buildSlice 97 1 #[(0,.agg #[.bool D,.slice E F G])]) (fun o2 j8=>∃ (d2:OA) (d3 d4:Nat),o2= .slice d2 d3 d4/\Heap.le p j8/\wpH P (Builtin.append_ #[97,97] 97 #[.slice H J L,.slice d2 d3 d4]) (fun o3 o4=>∃ (d5:OA) (d6 d7:Nat),o3= .slice d5 d6 d7/\∃ l2,d1=some l2/\wpH P (Instr.storeAt 97 (.pointer (some (l2.add 1))) (.slice d5 d6 d7)) (fun _ j9=>s [I (wi64 (a+1)),.bool l,.slice m n o] j9/\q [I (wi64 (a+1)),.bool l,.slice m n o] j9<q [I a,.bool g,.slice i j k] e) o4) j8) p)/\(wpH P (Instr.buildSlice 97 1 #[(0,.agg #[.bool D,.slice E F G])]) (fun o5 S=>∃ (X:OA) (Z a0:Nat),o5= .slice X Z a0/\Heap.le p S/\(∃ (d8:OA),S.cell? b=some (.pointer d8)/\wpH P (Builtin.append_ #[97,97] 97 #[.slice H J L,.slice X Z a0]) (fun o6 o7=>∃ (d9:OA) (e0 e1:Nat),o6= .slice d9 e0 e1/\∃ l3,d8=some l3/\wpH P (Instr.storeAt 97 (.pointer (some (l3.add 1))) (.slice d9 e0 e1)) (fun _ k0=>s [I (wi64 (a+1)),.bool l,.slice m n o] k0/\q [I (wi64 (a+1)),.bool l,.slice m n o] k0<q [I a,.bool g,.slice i j k] e) o7) S)/\(wpH P (Builtin.append_ #[97,97] 97 #[.slice H J L,.slice X Z a0]) (fun o8 k1=>∃ (e2:OA) (e3 e4:Nat),o8= .slice e2 e3 e4/\∃ (e5:OA),k1.cell? b=some (.pointer e5)/\∃ l4,e5=some l4/\wpH P (Instr.storeAt 97 (.pointer (some (l4.add 1))) (.slice e2 e3 e4)) (fun _ k2=>s [I (wi64 (a+1)),.bool l,.slice m n o] k2/\q [I (wi64 (a+1)),.bool l,.slice m n o] k2<q [I a,.bool g,.slice i j k] e) k1) S)) p))))
 (∃ (a1:List Value->Heap->Prop),(FCall P f_ZIsZero #[.agg #[.bool g,.slice i j k]] e (fun o9 k3=>∃ (e6:Bool),o9= .bool e6/\Br e6 (FCall P f_WNew #[I 1] k3 (fun p0 p1=>∃ (e7:Bool) (e8:OA) (e9 f0:Nat),p0= .agg #[.bool e7,.slice e8 e9 f0]/\a1 [.bool e7,.slice e8 e9 f0] p1))
 (a1 [.bool g,.slice i j k] k3)))/\
 ∀ (M:Bool) (N:OA) (O Q:Nat),∀ V,a1 [.bool M,.slice N O Q] V->∃ (f1:OA),V.cell? b=some (.pointer f1)/\∃ l5,f1=some l5/\∃ (f2:OA) (R f3:Nat),V.cell? (l5.add 1)=some (.slice f2 R f3)/\(0<=(f:Int)/\(f:Int)<=(R:Int))/\∃ (a2:List Value->Heap->Prop) (f4:List Value->Heap->Nat),a2 [I 0] V/\
 ∀ (d:Int),∀ c,a2 [I d] c->Br (decide (d<((R-(((f:Int)).toNat):Nat):Int))) (∃ b6,cutA f2 f3 (((f:Int)).toNat) 2=some b6/\0<=d/\d<((R-(((f:Int)).toNat):Nat):Int)/\∃ (f5:Bool) (f6:OA) (f7 f8:Nat),c.cell? (Addr.add (b6.add (d.toNat*2)) 0)=some (.bool f5)/\c.cell? (Addr.add (b6.add (d.toNat*2)) 1)=some (.slice f6 f7 f8)/\∃ (f9:OA),c.cell? b=some (.pointer f9)/\∃ l6,f9=some l6/\∃ (g0:OA) (g1 n0:Nat),c.cell? (l6.add 1)=some (.slice g0 g1 n0)/\FCall P f_ZQuo #[.agg #[.bool f5,.slice f6 f7 f8],.agg #[.bool M,.slice N O Q]] c (fun p2 k4=>∃ (g2:Bool) (g3:OA) (g4 g5:Nat),p2= .agg #[.bool g2,.slice g3 g4 g5]/\Heap.le c k4/\∃ l7,g0=some l7/\0<=wi64 ((f:Int)+d)/\wi64 ((f:Int)+d)<(g1:Int)/\wpH P (Instr.storeAt 94 (.pointer (some (l7.add ((wi64 ((f:Int)+d)).toNat*2)))) (.agg #[.bool g2,.slice g3 g4 g5])) (fun _ k5=>a2 [I (wi64 (d+1))] k5/\f4 [I (wi64 (d+1))] k5<f4 [I d] c) k4))
 (∃ (g6:OA),c.cell? b=some (.pointer g6)/\∃ l8,g6=some l8/\∃ (t:OA) (u v:Nat),c.cell? (l8.add 2)=some (.slice t u v)/\(∃ (g7:OA),c.cell? b=some (.pointer g7)/\FCall P f_TFraction #[.agg #[.bool z,.slice A B C],.agg #[.bool M,.slice N O Q]] c (fun p3 b5=>∃ (g8:Bool) (g9:OA) (h0 h1:Nat) (h2:Bool) (h3:OA) (h4 h5:Nat),p3= .agg #[.bool g8,.slice g9 h0 h1,.bool h2,.slice h3 h4 h5]/\Heap.le c b5/\wpH P (Instr.buildSlice 87 1 #[(0,.agg #[.bool g8,.slice g9 h0 h1,.bool h2,.slice h3 h4 h5])]) (fun p4 k6=>∃ (h6:OA) (h7 h8:Nat),p4= .slice h6 h7 h8/\Heap.le b5 k6/\wpH P (Builtin.append_ #[87,87] 87 #[.slice t u v,.slice h6 h7 h8]) (fun p5 p6=>∃ (h9:OA) (i0 i1:Nat),p5= .slice h9 i0 i1/\∃ l9,g7=some l9/\wpH P (Instr.storeAt 87 (.pointer (some (l9.add 2))) (.slice h9 i0 i1)) (fun _ p7=>x p7) p6) k6) b5))/\(FCall P f_TFraction #[.agg #[.bool z,.slice A B C],.agg #[.bool M,.slice N O Q]] c (fun p8 r=>∃ (a3:Bool) (a4:OA) (a5 a6:Nat) (a7:Bool) (a8:OA) (a9 b0:Nat),p8= .agg #[.bool a3,.slice a4 a5 a6,.bool a7,.slice a8 a9 b0]/\Heap.le c r/\(∃ (i2:OA),r.cell? b=some (.pointer i2)/\wpH P (Instr.buildSlice 87 1 #[(0,.agg #[.bool a3,.slice a4 a5 a6,.bool a7,.slice a8 a9 b0])]) (fun p9 k7=>∃ (i3:OA) (i4 i5:Nat),p9= .slice i3 i4 i5/\Heap.le r k7/\wpH P (Builtin.append_ #[87,87] 87 #[.slice t u v,.slice i3 i4 i5]) (fun q0 q1=>∃ (i6:OA) (i7 i8:Nat),q0= .slice i6 i7 i8/\∃ m0,i2=some m0/\wpH P (Instr.storeAt 87 (.pointer (some (m0.add 2))) (.slice i6 i7 i8)) (fun _ q2=>x q2) q1) k7) r)/\(wpH P (Instr.buildSlice 87 1 #[(0,.agg #[.bool a3,.slice a4 a5 a6,.bool a7,.slice a8 a9 b0])]) (fun q3 T=>∃ (b1:OA) (b2 b3:Nat),q3= .slice b1 b2 b3/\Heap.le r T/\(∃ (i9:OA),T.cell? b=some (.pointer i9)/\wpH P (Builtin.append_ #[87,87] 87 #[.slice t u v,.slice b1 b2 b3]) (fun q4 q5=>∃ (j0:OA) (j1 j2:Nat),q4= .slice j0 j1 j2/\∃ m1,i9=some m1/\wpH P (Instr.storeAt 87 (.pointer (some (m1.add 2))) (.slice j0 j1 j2)) (fun _ q6=>x q6) q5) T)/\(wpH P (Builtin.append_ #[87,87] 87 #[.slice t u v,.slice b1 b2 b3]) (fun q7 k8=>∃ (j3:OA) (j4 j5:Nat),q7= .slice j3 j4 j5/\∃ (j6:OA),k8.cell? b=some (.pointer j6)/\∃ m2,j6=some m2/\wpH P (Instr.storeAt 87 (.pointer (some (m2.add 2))) (.slice j3 j4 j5)) (fun _ q8=>x q8) k8) T)) r)))))))
 (fun k9=>∃ (j7:OA),k9.cell? b=some (.pointer j7)/\K (.pointer j7) k9))) n4) n2) h
theorem MNewTable_ok(a:OA)(b d:Nat)(e:Int)(hvc:MNewTable Tryz.prog a b d e h K):FCall Tryz.prog f_MNewTable #[.slice a b d,I e] h K:=
 fn_sound Tryz.func68 (c:=codeOf Tryz.f68) (by kernel_rfl) (rs:=[.tmp 4]) (by kernel_rfl) (fa:={ loops:=[(8,{ slots:=[31],owns:=[(9,2)],zs:=[.int .i64 0,.bool false,.slice none 0 0],lim:={ slots:=([11,12]++List.range' 31 21),keys:=[9,11,12] } }),(17,{ slots:=[62],owns:=[],zs:=[.int .i64 0],lim:={ slots:=([13,14]++List.range' 62 17),keys:=[14] } })],cuts:=[(16,{ slots:=[],owns:=[(9,2)],zs:=[.bool false,.slice none 0 0],lim:={ slots:=[52,53,54],keys:=[9] } })],orders:=[(12,([1,2,3,4,5,0,6,7,8,9,10],[[],[],[1],[1,2],[1,2,3],[],[5],[1,2,3,4,5,6],(List.range' 0 8),(List.range' 0 9),(List.range' 0 10)])),(19,((List.range' 0 12),[[],[0],[0,1],[0,1,2],[],[],[4,5],[],[],[7,8],(List.range' 0 10),(List.range' 0 11)])),(21,([1,2,3,4,5,6,0,7,8,9,10,11,12],[[],[],[1],[1,2],[1,2,3],[],[],[5,6],[5,6,7],(List.range' 1 8),(List.range' 0 10),(List.range' 0 11),(List.range' 0 12)]))],alts:=[(12,[(0,[6,7])]),(21,[(0,[7,8,9])])],rounds:=[(4,[.slice none 0 0])] })
  (cfg:={ n:=92,own:=[7,9,11,12,14],lim:=none,fns:=[70,100,131,132,133,134,135,136],wr:=[1000000000] }) (args:=[.slice a b d,I e]) (by kernel_rfl) (Bodies.cons Tryz.call70 (Bodies.cons Tryz.call100 (Bodies.cons Tryz.call131 (Bodies.cons Tryz.call132 (Bodies.cons Tryz.call133 (Bodies.cons Tryz.call134 (Bodies.cons Tryz.call135 (Bodies.cons Tryz.call136 Bodies.nil)))))))) (Eq.mp (by kernel_rfl:MNewTable Tryz.prog a b d e h K=_) hvc)
def BRow(P:Program)(e:OA)(a:Int)(h:Heap)(K:Value->Heap->Prop):Prop:=
 ∃ g,e=some g/\∃ (f:OA) (k d:Nat),h.cell? (g.add 1)=some (.slice f k d)/\∃ i,e=some i/\∃ (b:Int),h.cell? (i.add 0)=some (I b)/\∃ j,e=some j/\∃ (c:Int),h.cell? (j.add 0)=some (I c)/\(0<=wi64 ((wi64 (a+1))*c)/\wi64 ((wi64 (a+1))*c)<=(d:Int))/\(0<=wi64 (a*b)/\wi64 (a*b)<=(((wi64 ((wi64 (a+1))*c)).toNat:Nat):Int))/\K (.slice (cutA f d ((wi64 (a*b)).toNat) 2) (((wi64 ((wi64 (a+1))*c)).toNat)-((wi64 (a*b)).toNat)) (d-((wi64 (a*b)).toNat))) h
theorem BRow_ok(a:OA)(b:Int)(hvc:BRow Tryz.prog a b h K):FCall Tryz.prog f_BRow #[.pointer a,I b] h K:=
 fn_sound Tryz.func76 (c:=codeOf Tryz.f76) (by kernel_rfl) (rs:=[.tmp 4]) (by kernel_rfl) (fa:={ loops:=[],cuts:=[],orders:=[(1,((List.range' 0 19),[[],[0],[0,1],[0,1,2],[],[],[5],[5,6],[5,6,7],[4,5,6,7,8],[],[10],[],[12],[12,13],[12,13,14],[10,11,12,13,14,15],(List.range' 0 17),(List.range' 0 18)]))] })
  (cfg:={ n:=23,own:=[],lim:=none,fns:=[],wr:=[] }) (args:=[.pointer a,I b]) (by kernel_rfl) Bodies.nil (Eq.mp (by kernel_rfl:BRow Tryz.prog a b h K=_) hvc)
def BSwap(P:Program)(e:OA)(c:Int)(d:Int)(h:Heap)(K:Value->Heap->Prop):Prop:=
 FCall P f_BRow #[.pointer e,I c] h (fun b6 b7=>∃ (j:OA) (i b0:Nat),b6= .slice j i b0/\FCall P f_BRow #[.pointer e,I d] b7 (fun b8 b9=>∃ (k:OA) (l b1:Nat),b8= .slice k l b1/\∃ (m:List Value->Heap->Prop) (p:List Value->Heap->Nat),m [I 0] b9/\
 ∀ (b:Int),∀ a,m [I b] a->Br (decide (b<(i:Int))) (∃ n,k=some n/\0<=b/\b<(l:Int)/\∃ (q:Bool) (r:OA) (s t:Nat),a.cell? (Addr.add (n.add (b.toNat*2)) 0)=some (.bool q)/\a.cell? (Addr.add (n.add (b.toNat*2)) 1)=some (.slice r s t)/\∃ o,j=some o/\0<=b/\b<(i:Int)/\∃ (u:Bool) (v:OA) (w x:Nat),a.cell? (Addr.add (o.add (b.toNat*2)) 0)=some (.bool u)/\a.cell? (Addr.add (o.add (b.toNat*2)) 1)=some (.slice v w x)/\∃ a2,j=some a2/\0<=b/\b<(i:Int)/\wpH P (Instr.storeAt 94 (.pointer (some (a2.add (b.toNat*2)))) (.agg #[.bool q,.slice r s t])) (fun _ c0=>∃ a3,k=some a3/\0<=b/\b<(l:Int)/\wpH P (Instr.storeAt 94 (.pointer (some (a3.add (b.toNat*2)))) (.agg #[.bool u,.slice v w x])) (fun _ a1=>m [I (wi64 (b+1))] a1/\p [I (wi64 (b+1))] a1<p [I b] a) c0) a)
 (∃ a4,e=some a4/\∃ (y:OA) (z b2:Nat),a.cell? (a4.add 2)=some (.slice y z b2)/\∃ a5,e=some a5/\∃ (A:OA) (B b3:Nat),a.cell? (a5.add 2)=some (.slice A B b3)/\∃ a6,e=some a6/\∃ (C:OA) (D b4:Nat),a.cell? (a6.add 2)=some (.slice C D b4)/\∃ f,C=some f/\0<=d/\d<(D:Int)/\∃ (E:Bool) (F:OA) (G H:Nat) (J:Bool) (L:OA) (M N:Nat),a.cell? (Addr.add (f.add (d.toNat*4)) 0)=some (.bool E)/\a.cell? (Addr.add (f.add (d.toNat*4)) 1)=some (.slice F G H)/\a.cell? (Addr.add (f.add (d.toNat*4)) 2)=some (.bool J)/\a.cell? (Addr.add (f.add (d.toNat*4)) 3)=some (.slice L M N)/\∃ a7,e=some a7/\∃ (O:OA) (Q b5:Nat),a.cell? (a7.add 2)=some (.slice O Q b5)/\∃ g,O=some g/\0<=c/\c<(Q:Int)/\∃ (R:Bool) (S:OA) (T V:Nat) (W:Bool) (X:OA) (Z a0:Nat),a.cell? (Addr.add (g.add (c.toNat*4)) 0)=some (.bool R)/\a.cell? (Addr.add (g.add (c.toNat*4)) 1)=some (.slice S T V)/\a.cell? (Addr.add (g.add (c.toNat*4)) 2)=some (.bool W)/\a.cell? (Addr.add (g.add (c.toNat*4)) 3)=some (.slice X Z a0)/\∃ a8,y=some a8/\0<=c/\c<(z:Int)/\wpH P (Instr.storeAt 101 (.pointer (some (a8.add (c.toNat*4)))) (.agg #[.bool E,.slice F G H,.bool J,.slice L M N])) (fun _ c1=>∃ a9,A=some a9/\0<=d/\d<(B:Int)/\wpH P (Instr.storeAt 101 (.pointer (some (a9.add (d.toNat*4)))) (.agg #[.bool R,.slice S T V,.bool W,.slice X Z a0])) (fun _ c2=>K (.tuple #[]) c2) c1) a)))
theorem BSwap_ok(a:OA)(b:Int)(d:Int)(hvc:BSwap Tryz.prog a b d h K):FCall Tryz.prog f_BSwap #[.pointer a,I b,I d] h K:=
 fn_sound Tryz.func102 (c:=codeOf Tryz.f102) (by kernel_rfl) (rs:=[]) (by kernel_rfl) (fa:={ loops:=[(2,{ slots:=[17],owns:=[],zs:=[.int .i64 0],lim:={ slots:=([8]++List.range' 17 18),keys:=[] } })],cuts:=[],orders:=[(4,((List.range' 0 16),[[],[],[],[],[],[],[4,5],[4,5,6],[],[],[8,9],[8,9,10],([0,1]++List.range' 4 8),([0,1]++List.range' 4 9),(List.range' 0 14),(List.range' 0 15)])),(6,((List.range' 0 28),[[],[0],[0,1],[0,1,2],[],[],[5],[5,6],[5,6,7],[],[],[10],[10,11],[10,11,12],[],[10,11,12,13,14],[10,11,12,13,14,15],[],[17],[17,18],[17,18,19],[],[17,18,19,20,21],[17,18,19,20,21,22],(List.range' 0 9++List.range' 10 14),(List.range' 0 9++List.range' 10 15),(List.range' 0 26),(List.range' 0 27)]))] })
  (cfg:={ n:=61,own:=[],lim:=none,fns:=[76],wr:=[] }) (args:=[.pointer a,I b,I d]) (by kernel_rfl) (Bodies.cons Tryz.call76 Bodies.nil) (Eq.mp (by kernel_rfl:BSwap Tryz.prog a b d h K=_) hvc)
def BFind(P:Program)(i:OA)(t:Int)(c:Int)(h:Heap)(K:Value->Heap->Prop):Prop:=
 ∃ (d:List Value->Heap->Prop) (j:List Value->Heap->Nat),d [I t] h/\
 ∀ (a:Int),∀ b,d [I a] b->∃ s,i=some s/\∃ (u:OA) (k v:Nat),b.cell? (s.add 2)=some (.slice u k v)/\Br (decide (a<(k:Int))) (FCall P f_BRow #[.pointer i,I a] b (fun x e=>∃ (l:OA) (m w:Nat),x= .slice l m w/\∃ g,l=some g/\0<=c/\c<(m:Int)/\∃ (n:Bool) (o:OA) (p q:Nat),e.cell? (Addr.add (g.add (c.toNat*2)) 0)=some (.bool n)/\e.cell? (Addr.add (g.add (c.toNat*2)) 1)=some (.slice o p q)/\FCall P f_ZIsZero #[.agg #[.bool n,.slice o p q]] e (fun y f=>∃ (r:Bool),y= .bool r/\Br (!r) (K (.tuple #[I a,.bool true]) f)
 (d [I (wi64 (a+1))] f/\j [I (wi64 (a+1))] f<j [I a] b))))
 (K (.tuple #[I 0,.bool false]) b)
theorem BFind_ok(a:OA)(b:Int)(d:Int)(hvc:BFind Tryz.prog a b d h K):FCall Tryz.prog f_BFind #[.pointer a,I b,I d] h K:=
 fn_sound Tryz.func101 (c:=codeOf Tryz.f101) (by kernel_rfl) (rs:=[.tmp 6,.tmp 7]) (by kernel_rfl) (fa:={ loops:=[(2,{ slots:=[8],owns:=[],zs:=[.int .i64 0],lim:={ slots:=([6,7,8]++List.range' 10 18),keys:=[] } })],cuts:=[],orders:=[] })
  (cfg:={ n:=28,own:=[],lim:=none,fns:=[76,135],wr:=[] }) (args:=[.pointer a,I b,I d]) (by kernel_rfl) (Bodies.cons Tryz.call76 (Bodies.cons Tryz.call135 Bodies.nil)) (Eq.mp (by kernel_rfl:BFind Tryz.prog a b d h K=_) hvc)
def BClear(P:Program)(F:OA)(b4:Int)(b5:Int)(b:Int)(b6:Bool)(b7:OA)(b8 b9:Nat)(h:Heap)(K:Value->Heap->Prop):Prop:=
 FCall P f_BRow #[.pointer F,I b4] h (fun c2 c3=>∃ (i:OA) (e c0:Nat),c2= .slice i e c0/\FCall P f_BRow #[.pointer F,I b5] c3 (fun c4 v=>∃ (j:OA) (k c1:Nat),c4= .slice j k c1/\∃ A,i=some A/\0<=b/\b<(e:Int)/\∃ (m:Bool) (n:OA) (o p:Nat),v.cell? (Addr.add (A.add (b.toNat*2)) 0)=some (.bool m)/\v.cell? (Addr.add (A.add (b.toNat*2)) 1)=some (.slice n o p)/\∃ (f:List Value->Heap->Prop) (d:List Value->Heap->Nat),f [I 0] v/\
 ∀ (a:Int),∀ c,f [I a] c->Br (decide (a<(e:Int))) (∃ B,i=some B/\0<=a/\a<(e:Int)/\∃ (q:Bool) (r:OA) (s t:Nat),c.cell? (Addr.add (B.add (a.toNat*2)) 0)=some (.bool q)/\c.cell? (Addr.add (B.add (a.toNat*2)) 1)=some (.slice r s t)/\∃ (u:List Value->Heap->Prop),(FCall P f_ZIsZero #[.agg #[.bool q,.slice r s t]] c (fun c5 a8=>∃ (G:Bool),c5= .bool G/\Br G (FCall P f_ZIsZero #[.agg #[.bool m,.slice n o p]] a8 (fun c6 g=>∃ (H:Bool),c6= .bool H/\Br H (f [I (wi64 (a+1))] g/\d [I (wi64 (a+1))] g<d [I a] c)
 (∃ C,j=some C/\0<=a/\a<(k:Int)/\∃ (J:Bool) (L:OA) (M N:Nat),g.cell? (Addr.add (C.add (a.toNat*2)) 0)=some (.bool J)/\g.cell? (Addr.add (C.add (a.toNat*2)) 1)=some (.slice L M N)/\FCall P f_ZIsZero #[.agg #[.bool J,.slice L M N]] g (fun c7 w=>∃ (O:Bool),c7= .bool O/\Br O (f [I (wi64 (a+1))] w/\d [I (wi64 (a+1))] w<d [I a] c)
 (u [] w)))))
 (u [] a8)))/\
 ∀ b2,u [] b2->wpH P (Instr.alloc 185 true (.tuple #[])) (fun c8 x=>∃ (l:Addr),c8= .pointer (some l)/\∃ D,j=some D/\0<=b/\b<(k:Int)/\∃ (Q:Bool) (R:OA) (S T:Nat),x.cell? (Addr.add (D.add (b.toNat*2)) 0)=some (.bool Q)/\x.cell? (Addr.add (D.add (b.toNat*2)) 1)=some (.slice R S T)/\FCall P f_SAddProduct #[.pointer (some l),.agg #[.bool Q,.slice R S T],.agg #[.bool q,.slice r s t]] x (fun c9 y=>c9= .tuple #[]/\∃ E,j=some E/\0<=a/\a<(k:Int)/\∃ (V:Bool) (W:OA) (X Z:Nat),y.cell? (Addr.add (E.add (a.toNat*2)) 0)=some (.bool V)/\y.cell? (Addr.add (E.add (a.toNat*2)) 1)=some (.slice W X Z)/\FCall P f_SSubProduct #[.pointer (some l),.agg #[.bool m,.slice n o p],.agg #[.bool V,.slice W X Z]] y (fun d0 a9=>d0= .tuple #[]/\FCall P f_SValue #[.pointer (some l)] a9 (fun d1 z=>∃ (a0:Bool) (a1:OA) (a2 a3:Nat),d1= .agg #[.bool a0,.slice a1 a2 a3]/\Heap.le a9 z/\FCall P f_ZQuo #[.agg #[.bool a0,.slice a1 a2 a3],.agg #[.bool b6,.slice b7 b8 b9]] z (fun d2 b0=>∃ (a4:Bool) (a5:OA) (a6 a7:Nat),d2= .agg #[.bool a4,.slice a5 a6 a7]/\Heap.le z b0/\∃ b3,i=some b3/\0<=a/\a<(e:Int)/\wpH P (Instr.storeAt 94 (.pointer (some (b3.add (a.toNat*2)))) (.agg #[.bool a4,.slice a5 a6 a7])) (fun _ b1=>f [I (wi64 (a+1))] b1/\d [I (wi64 (a+1))] b1<d [I a] c) b0))))) b2)
 (K (.tuple #[]) c)))
theorem BClear_ok(a:OA)(b:Int)(d:Int)(e:Int)(f:Bool)(g:OA)(i j:Nat)(hvc:BClear Tryz.prog a b d e f g i j h K):FCall Tryz.prog f_BClear #[.pointer a,I b,I d,I e,.agg #[.bool f,.slice g i j]] h K:=
 fn_sound Tryz.func104 (c:=codeOf Tryz.f104) (by kernel_rfl) (rs:=[]) (by kernel_rfl) (fa:={ loops:=[(4,{ slots:=[28],owns:=[],zs:=[.int .i64 0],lim:={ slots:=([13,14,15]++List.range' 28 37),keys:=[14] } })],cuts:=[(7,{ slots:=[],owns:=[],zs:=[],lim:={ slots:=(List.range' 33 13),keys:=[] } })],orders:=[(8,([0,1,2,3,4,5],[[],[],[0,1],[0,1,2],[],[0,1,2,3,4]])),(9,([0,1,2,3,4,5],[[],[],[],[1,2],[1,2,3],[0,1,2,3,4]])),(10,([0,1,3,2,4,5,6],[[],[],[],[],[2,3],[0,1,2,3,4],[0,1,2,3,4,5]]))] })
  (cfg:={ n:=65,own:=[9,12,14],lim:=none,fns:=[76,135,136,150,151,160],wr:=[150,160] }) (args:=[.pointer a,I b,I d,I e,.agg #[.bool f,.slice g i j]]) (by kernel_rfl) (Bodies.cons Tryz.call76 (Bodies.cons Tryz.call135 (Bodies.cons Tryz.call136 (Bodies.cons Tryz.call150 (Bodies.cons Tryz.call151 (Bodies.cons Tryz.call160 Bodies.nil)))))) (Eq.mp (by kernel_rfl:BClear Tryz.prog a b d e f g i j h K=_) hvc)
def BReduce(P:Program)(m:OA)(Z:Int)(h:Heap)(K:Value->Heap->Prop):Prop:=
 FCall P f_WNew #[I 1] h (fun a3 a4=>∃ (G:Bool) (H:OA) (J L:Nat),a3= .agg #[.bool G,.slice H J L]/\∃ (o:List Value->Heap->Prop) (p:List Value->Heap->Nat),o [.slice none 0 0,I 1,I 0,.bool G,.slice H J L] a4/\
 ∀ (e:OA) (b f:Nat) (d:Int) (a:Int) (g:Bool) (i:OA) (j k:Nat),∀ n,o [.slice e b f,I d,I a,.bool g,.slice i j k] n->Br (decide (a<Z)) (FCall P f_BFind #[.pointer m,I (b:Int),I a] n (fun a5 s=>∃ (t:Int) (M:Bool),a5= .tuple #[I t,.bool M]/\Br (!M) (o [.slice e b f,I d,I (wi64 (a+1)),.bool g,.slice i j k] s/\p [.slice e b f,I d,I (wi64 (a+1)),.bool g,.slice i j k] s<p [.slice e b f,I d,I a,.bool g,.slice i j k] n)
 (∃ (u:List Value->Heap->Prop),(Br (t != (b:Int)) (FCall P f_BSwap #[.pointer m,I (b:Int),I t] s (fun a6 a7=>a6= .tuple #[]/\u [I (wi64 (0-d))] a7))
 (u [I d] s))/\
 ∀ (v:Int),∀ E,u [I v] E->∃ X,m=some X/\∃ (a0:OA) (N a1:Nat),E.cell? (X.add 2)=some (.slice a0 N a1)/\∃ (q:List Value->Heap->Prop) (r:List Value->Heap->Nat),q [I 0] E/\
 ∀ (c:Int),∀ l,q [I c] l->Br (decide (c<(N:Int))) (Br (c != (b:Int)) (FCall P f_BClear #[.pointer m,I c,I (b:Int),I a,.agg #[.bool g,.slice i j k]] l (fun a8 V=>a8= .tuple #[]/\q [I (wi64 (c+1))] V/\r [I (wi64 (c+1))] V<r [I c] l))
 (q [I (wi64 (c+1))] l/\r [I (wi64 (c+1))] l<r [I c] l))
 (FCall P f_BRow #[.pointer m,I (b:Int)] l (fun a9 D=>∃ (O:OA) (Q a2:Nat),a9= .slice O Q a2/\∃ F,O=some F/\0<=a/\a<(Q:Int)/\∃ (w:Bool) (x:OA) (y z:Nat),D.cell? (Addr.add (F.add (a.toNat*2)) 0)=some (.bool w)/\D.cell? (Addr.add (F.add (a.toNat*2)) 1)=some (.slice x y z)/\wpH P (Instr.buildSlice 27 1 #[(0,I a)]) (fun b0 b1=>∃ (R:OA) (S T:Nat),b0= .slice R S T/\wpH P (Builtin.append_ #[27,27] 27 #[.slice e b f,.slice R S T]) (fun b2 W=>∃ (A:OA) (B C:Nat),b2= .slice A B C/\o [.slice A B C,I v,I (wi64 (a+1)),.bool w,.slice x y z] W/\p [.slice A B C,I v,I (wi64 (a+1)),.bool w,.slice x y z] W<p [.slice e b f,I d,I a,.bool g,.slice i j k] n) b1) D)))))
 (K (.tuple #[.slice e b f,.agg #[.bool g,.slice i j k],I d]) n))
theorem BReduce_ok(a:OA)(b:Int)(hvc:BReduce Tryz.prog a b h K):FCall Tryz.prog f_BReduce #[.pointer a,I b] h K:=
 fn_sound Tryz.func69 (c:=codeOf Tryz.f69) (by kernel_rfl) (rs:=[.tmp 4,.cell 5 94,.tmp 6]) (by kernel_rfl) (fa:={ loops:=[(4,{ slots:=[7,9,17],owns:=[(8,2)],zs:=[.slice none 0 0,.int .i64 0,.int .i64 0,.bool false,.slice none 0 0],lim:={ slots:=([7,9,10,11,12,13,14]++List.range' 17 52),keys:=[8] } }),(13,{ slots:=[45],owns:=[],zs:=[.int .i64 0],lim:={ slots:=([14]++List.range' 45 13),keys:=[] } })],cuts:=[(12,{ slots:=[9],owns:=[],zs:=[.int .i64 0],lim:={ slots:=([9]++List.range' 31 9),keys:=[] } })],orders:=[(21,([0,1,2,3,4,5],[[],[],[],[0],[0,1,3],[0,1,2,3,4]]))] })
  (cfg:={ n:=72,own:=[5,8],lim:=none,fns:=[76,100,101,102,104],wr:=[102,104] }) (args:=[.pointer a,I b]) (by kernel_rfl) (Bodies.cons Tryz.call76 (Bodies.cons Tryz.call100 (Bodies.cons Tryz.call101 (Bodies.cons Tryz.call102 (Bodies.cons Tryz.call104 Bodies.nil))))) (Eq.mp (by kernel_rfl:BReduce Tryz.prog a b h K=_) hvc)
def MChunk(P:Program)(e:OA)(f g:Nat)(i:Int)(h:Heap)(K:Value->Heap->Prop):Prop:=
 wpH P (Instr.box 87 (.slice e f g)) (fun j k=>∃ (b:Addr),j= .pointer (some b)/\wpH P (Instr.box 3 (I i)) (fun l d=>∃ (a:Addr),l= .pointer (some a)/\∃ (c:Int),d.cell? a=some (I c)/\Br (decide (c<(1:Int))) (False)
 (K (.func (.func 174) #[] #[.pointer (some b),.pointer (some a)]) d)) k) h
theorem MChunk_ok(b:OA)(d e:Nat)(a:Int)(hvc:MChunk Tryz.prog b d e a h K):FCall Tryz.prog f_MChunk #[.slice b d e,I a] h K:=
 fn_sound Tryz.func131 (c:=codeOf Tryz.f131) (by kernel_rfl) (rs:=[.tmp 4]) (by kernel_rfl) (fa:={ loops:=[],cuts:=[],orders:=[] })
  (cfg:={ n:=9,own:=[],lim:=none,fns:=[],wr:=[] }) (args:=[.slice b d e,I a]) (by kernel_rfl) Bodies.nil (Eq.mp (by kernel_rfl:MChunk Tryz.prog b d e a h K=_) hvc)
def MChunk1(P:Program)(p:Nat)(f:Addr)(j:Addr)(h:Heap)(K:Value->Heap->Prop):Prop:=
 ∃ (g:List Value->Heap->Prop) (k:List Value->Heap->Nat),g [I 0] h/\
 ∀ (a:Int),∀ d,g [I a] d->∃ (q:OA) (l r:Nat),d.cell? f=some (.slice q l r)/\Br (decide (a<(l:Int))) (∃ (c:Int),d.cell? j=some (I c)/\∃ (s:OA) (b t:Nat),d.cell? f=some (.slice s b t)/\(0<=a/\a<=(b:Int))/\∃ (m:OA) (u n:Nat),d.cell? f=some (.slice m u n)/\(0<=wi64 (a+(if ((b-(a.toNat):Nat):Int)<c then ((b-(a.toNat):Nat):Int) else c))/\wi64 (a+(if ((b-(a.toNat):Nat):Int)<c then ((b-(a.toNat):Nat):Int) else c))<=(n:Int))/\(0<=wi64 (a+(if ((b-(a.toNat):Nat):Int)<c then ((b-(a.toNat):Nat):Int) else c))/\wi64 (a+(if ((b-(a.toNat):Nat):Int)<c then ((b-(a.toNat):Nat):Int) else c))<=(((wi64 (a+(if ((b-(a.toNat):Nat):Int)<c then ((b-(a.toNat):Nat):Int) else c))).toNat:Nat):Int))/\(0<=a/\a<=(((wi64 (a+(if ((b-(a.toNat):Nat):Int)<c then ((b-(a.toNat):Nat):Int) else c))).toNat:Nat):Int))/\YCall P p #[.slice (cutA m ((wi64 (a+(if ((b-(a.toNat):Nat):Int)<c then ((b-(a.toNat):Nat):Int) else c))).toNat) (a.toNat) 4) ((wi64 (a+(if ((b-(a.toNat):Nat):Int)<c then ((b-(a.toNat):Nat):Int) else c))).toNat-a.toNat) ((wi64 (a+(if ((b-(a.toNat):Nat):Int)<c then ((b-(a.toNat):Nat):Int) else c))).toNat-a.toNat)] d (fun v e=>∃ (o:Bool),v= .bool o/\Br (!o) (K (.tuple #[]) e)
 (∃ (i:Int),e.cell? j=some (I i)/\g [I (wi64 (a+i))] e/\k [I (wi64 (a+i))] e<k [I a] d)))
 (K (.tuple #[]) d)
theorem MChunk1_ok(a:Nat)(b:Addr)(d:Addr)(hvc:MChunk1 Tryz.prog a b d h K):FCall Tryz.prog f_MChunk1 #[.func (.yield a) #[] #[],.pointer (some b),.pointer (some d)] h K:=
 fn_sound Tryz.func174 (c:=codeOf Tryz.f174) (by kernel_rfl) (rs:=[]) (by kernel_rfl) (fa:={ loops:=[(1,{ slots:=[4],owns:=[],zs:=[.int .i64 0],lim:={ slots:=(List.range' 4 27),keys:=[] } })],cuts:=[],orders:=[(3,([0,1,2,3,4,5,6],[[],[],[],[1,2],[1,2,3],[0,1,2,3,4],[0,1,2,3,4,5]]))] })
  (cfg:={ n:=31,own:=[],lim:=none,fns:=[],wr:=[] }) (args:=[.func (.yield a) #[] #[],.pointer (some b),.pointer (some d)]) (by kernel_rfl) Bodies.nil (Eq.mp (by kernel_rfl:MChunk1 Tryz.prog a b d h K=_) hvc)
theorem MChunk1_enter:∀ (args:Array Value) (W:World),(callFunc f_MChunk1 args).run Tryz.prog W= .ok (.enter f_MChunk1 args) W:=Tryz.call174
def MContains(P:Program)(b:OA)(c d:Nat)(e:Int)(h:Heap)(K:Value->Heap->Prop):Prop:=
 FCall P f_MIndex #[.slice b c d,I e] h (fun f g=>∃ (a:Int),f=I a/\K (.bool (decide (a>=(0:Int)))) g)
theorem MContains_ok(a:OA)(b d:Nat)(e:Int)(hvc:MContains Tryz.prog a b d e h K):FCall Tryz.prog f_MContains #[.slice a b d,I e] h K:=
 fn_sound Tryz.func74 (c:=codeOf Tryz.f74) (by kernel_rfl) (rs:=[.tmp 4]) (by kernel_rfl) (fa:={ loops:=[],cuts:=[],orders:=[] })
  (cfg:={ n:=9,own:=[],lim:=none,fns:=[141],wr:=[] }) (args:=[.slice a b d,I e]) (by kernel_rfl) (Bodies.cons Tryz.call141 Bodies.nil) (Eq.mp (by kernel_rfl:MContains Tryz.prog a b d e h K=_) hvc)
def MIndex(P:Program)(i:OA)(d k:Nat)(j:Int)(h:Heap)(K:Value->Heap->Prop):Prop:=
 ∃ (c:List Value->Heap->Prop) (e:List Value->Heap->Nat),c [I 0] h/\
 ∀ (a:Int),∀ b,c [I a] b->Br (decide (a<(d:Int))) (∃ g,i=some g/\0<=a/\a<(d:Int)/\∃ (f:Int),b.cell? (g.add (a.toNat*1))=some (I f)/\Br (j==f) (K (I a) b)
 (c [I (wi64 (a+1))] b/\e [I (wi64 (a+1))] b<e [I a] b))
 (K (I (-1:Int)) b)
theorem MIndex_ok(a:OA)(b d:Nat)(e:Int)(hvc:MIndex Tryz.prog a b d e h K):FCall Tryz.prog f_MIndex #[.slice a b d,I e] h K:=
 fn_sound Tryz.func141 (c:=codeOf Tryz.f141) (by kernel_rfl) (rs:=[.tmp 4]) (by kernel_rfl) (fa:={ loops:=[(2,{ slots:=[8],owns:=[],zs:=[.int .i64 0],lim:={ slots:=([4,5]++List.range' 8 11),keys:=[] } })],cuts:=[],orders:=[] })
  (cfg:={ n:=19,own:=[],lim:=none,fns:=[],wr:=[] }) (args:=[.slice a b d,I e]) (by kernel_rfl) Bodies.nil (Eq.mp (by kernel_rfl:MIndex Tryz.prog a b d e h K=_) hvc)
def FRows(P:Program)(c:Int)(b:Int)(r:OA)(j s:Nat)(h:Heap)(K:Value->Heap->Prop):Prop:=
 Br (decide (c<(1:Int))) (K (.tuple #[.slice none 0 0,.bool false]) h)
 (Br (decide (c>(64:Int))) (K (.tuple #[.slice none 0 0,.bool false]) h)
 (Br (decide (b<(1:Int))) (K (.tuple #[.slice none 0 0,.bool false]) h)
 (Br (decide (b>(64:Int))) (K (.tuple #[.slice none 0 0,.bool false]) h)
 (Br ((j:Int) != (wi64 (c*b))) (K (.tuple #[.slice none 0 0,.bool false]) h)
 (FCall P f_NNums #[.slice r j s] h (fun u o=>∃ (k:OA) (t d:Nat) (l:Bool),u= .tuple #[.slice k t d,.bool l]/\Br (!l) (K (.tuple #[.slice none 0 0,.bool false]) o)
 (wpH P (Instr.makeSlice 46 (I c) (I c)) (fun v w=>∃ (f:OA) (g m:Nat),v= .slice f g m/\∃ (i:List Value->Heap->Prop) (n:List Value->Heap->Nat),i [I 0] w/\
 ∀ (a:Int),∀ e,i [I a] e->Br (decide (a<c)) ((0<=wi64 ((wi64 (a+1))*b)/\wi64 ((wi64 (a+1))*b)<=(d:Int))/\(0<=wi64 (a*b)/\wi64 (a*b)<=(((wi64 ((wi64 (a+1))*b)).toNat:Nat):Int))/\∃ q,f=some q/\0<=a/\a<(g:Int)/\wpH P (Instr.storeAt 43 (.pointer (some (q.add (a.toNat*1)))) (.slice (cutA k d ((wi64 (a*b)).toNat) 4) (((wi64 ((wi64 (a+1))*b)).toNat)-((wi64 (a*b)).toNat)) (d-((wi64 (a*b)).toNat)))) (fun _ p=>i [I (wi64 (a+1))] p/\n [I (wi64 (a+1))] p<n [I a] e) e)
 (K (.tuple #[.slice f g m,.bool true]) e)) o)))))))
theorem FRows_ok(a:Int)(b:Int)(d:OA)(e f:Nat)(hvc:FRows Tryz.prog a b d e f h K):FCall Tryz.prog f_FRows #[.agg #[I a,I b,.slice d e f]] h K:=
 fn_sound Tryz.func27 (c:=codeOf Tryz.f27) (by kernel_rfl) (rs:=[.tmp 2,.tmp 3]) (by kernel_rfl) (fa:={ loops:=[(8,{ slots:=[7],owns:=[],zs:=[.int .i64 0],lim:={ slots:=([7]++List.range' 48 20),keys:=[] } })],cuts:=[],orders:=[] })
  (cfg:={ n:=69,own:=[1],lim:=none,fns:=[26],wr:=[] }) (args:=[.agg #[I a,I b,.slice d e f]]) (by kernel_rfl) (Bodies.cons Tryz.call26 Bodies.nil) (Eq.mp (by kernel_rfl:FRows Tryz.prog a b d e f h K=_) hvc)
def FPack(P:Program)(n:OA)(c E:Nat)(h:Heap)(K:Value->Heap->Prop):Prop:=
 Br ((c:Int)==(0:Int)) (K (.agg #[I 0,I 0,.slice none 0 0]) h)
 (∃ y,n=some y/\0<=(0:Int)/\(0:Int)<(c:Int)/\∃ (A:OA) (o B:Nat),h.cell? (y.add (((0:Int)).toNat*1))=some (.slice A o B)/\∃ (j:List Value->Heap->Prop) (p:List Value->Heap->Nat),j [I 0,I (c:Int),I (o:Int),.slice none 0 0] h/\
 ∀ (a:Int) (d:Int) (e:Int) (f:OA) (g i:Nat),∀ b,j [I a,I d,I e,.slice f g i] b->Br (decide (a<(c:Int))) (∃ z,n=some z/\0<=a/\a<(c:Int)/\∃ (q:OA) (r s:Nat),b.cell? (z.add (a.toNat*1))=some (.slice q r s)/\FCall P f_NTexts #[.slice q r s] b (fun C w=>∃ (t:OA) (u v:Nat),C= .slice t u v/\Heap.le b w/\wpH P (Builtin.append_ #[22,22] 22 #[.slice f g i,.slice t u v]) (fun D x=>∃ (k:OA) (l m:Nat),D= .slice k l m/\j [I (wi64 (a+1)),I d,I e,.slice k l m] x/\p [I (wi64 (a+1)),I d,I e,.slice k l m] x<p [I a,I d,I e,.slice f g i] b) w))
 (K (.agg #[I d,I e,.slice f g i]) b))
theorem FPack_ok(a:OA)(b d:Nat)(hvc:FPack Tryz.prog a b d h K):FCall Tryz.prog f_FPack #[.slice a b d] h K:=
 fn_sound Tryz.func73 (c:=codeOf Tryz.f73) (by kernel_rfl) (rs:=[.cell 2 24]) (by kernel_rfl) (fa:={ loops:=[(5,{ slots:=[4],owns:=[(3,3)],zs:=[.int .i64 0,.int .i64 0,.int .i64 0,.slice none 0 0],lim:={ slots:=([4]++List.range' 16 15),keys:=[3] } })],cuts:=[],orders:=[(7,((List.range' 0 10),[[],[0],[],[],[2,3],[2,3,4],[2,3,4,5],[0,1,2,3,4,5,6],(List.range' 0 8),(List.range' 0 9)]))] })
  (cfg:={ n:=32,own:=[2,3],lim:=none,fns:=[84],wr:=[1000000000] }) (args:=[.slice a b d]) (by kernel_rfl) (Bodies.cons Tryz.call84 Bodies.nil) (Eq.mp (by kernel_rfl:FPack Tryz.prog a b d h K=_) hvc)
def FCopy(P:Program)(B:OA)(k J:Nat)(h:Heap)(K:Value->Heap->Prop):Prop:=
 ∃ (f:List Value->Heap->Prop) (l:List Value->Heap->Nat),f [.slice none 0 0,I 0] h/\
 ∀ (b:OA) (c d:Nat) (a:Int),∀ e,f [.slice b c d,I a] e->Br (decide (a<(k:Int))) (wpH P (Instr.buildSlice 43 0 #[]) (fun C y=>∃ (m:OA) (n o:Nat),C= .slice m n o/\∃ A,B=some A/\0<=a/\a<(k:Int)/\∃ (p:OA) (q r:Nat),y.cell? (A.add (a.toNat*1))=some (.slice p q r)/\wpH P (Builtin.append_ #[43,43] 43 #[.slice m n o,.slice p q r]) (fun D E=>∃ (s:OA) (t u:Nat),D= .slice s t u/\wpH P (Instr.buildSlice 46 1 #[(0,.slice s t u)]) (fun F G=>∃ (v:OA) (w x:Nat),F= .slice v w x/\wpH P (Builtin.append_ #[46,46] 46 #[.slice b c d,.slice v w x]) (fun H z=>∃ (g:OA) (i j:Nat),H= .slice g i j/\f [.slice g i j,I (wi64 (a+1))] z/\l [.slice g i j,I (wi64 (a+1))] z<l [.slice b c d,I a] e) G) E) y) e)
 (K (.slice b c d) e)
theorem FCopy_ok(a:OA)(b d:Nat)(hvc:FCopy Tryz.prog a b d h K):FCall Tryz.prog f_FCopy #[.slice a b d] h K:=
 fn_sound Tryz.func105 (c:=codeOf Tryz.f105) (by kernel_rfl) (rs:=[.tmp 2]) (by kernel_rfl) (fa:={ loops:=[(3,{ slots:=[3,4],owns:=[],zs:=[.slice none 0 0,.int .i64 0],lim:={ slots:=(List.range' 3 17),keys:=[] } })],cuts:=[],orders:=[] })
  (cfg:={ n:=21,own:=[],lim:=none,fns:=[],wr:=[] }) (args:=[.slice a b d]) (by kernel_rfl) Bodies.nil (Eq.mp (by kernel_rfl:FCopy Tryz.prog a b d h K=_) hvc)
def FEchelonL28(P:Program)(f:OA)(g i:Nat)(b2:Int)(b3:List Value->Heap->Prop)(l:List Value->Heap->Nat)(c:Int)(b4:Bool)(b5:OA)(b6 b7:Nat)(b8:Bool)(b9:OA)(c0 c1:Nat)(c2:Heap)(c3:Heap):Prop:=
 ∃ (j:List Value->Heap->Prop) (m:List Value->Heap->Nat),j [I b2] c2/\
 ∀ (a:Int),∀ b,j [I a] b->∃ a7,f=some a7/\0<=c/\c<(g:Int)/\∃ (c4:OA) (n c5:Nat),b.cell? (a7.add (c.toNat*1))=some (.slice c4 n c5)/\Br (decide (a<(n:Int))) (∃ a8,f=some a8/\0<=c/\c<(g:Int)/\∃ (o:OA) (p c6:Nat),b.cell? (a8.add (c.toNat*1))=some (.slice o p c6)/\∃ a9,f=some a9/\0<=c/\c<(g:Int)/\∃ (q:OA) (r c7:Nat),b.cell? (a9.add (c.toNat*1))=some (.slice q r c7)/\∃ d,q=some d/\0<=a/\a<(r:Int)/\∃ (s:Bool) (t:OA) (u v:Nat) (w:Bool) (x:OA) (y z:Nat),b.cell? (Addr.add (d.add (a.toNat*4)) 0)=some (.bool s)/\b.cell? (Addr.add (d.add (a.toNat*4)) 1)=some (.slice t u v)/\b.cell? (Addr.add (d.add (a.toNat*4)) 2)=some (.bool w)/\b.cell? (Addr.add (d.add (a.toNat*4)) 3)=some (.slice x y z)/\∃ b0,f=some b0/\0<=(i:Int)/\(i:Int)<(g:Int)/\∃ (A:OA) (B c8:Nat),b.cell? (b0.add (((i:Int)).toNat*1))=some (.slice A B c8)/\∃ e,A=some e/\0<=a/\a<(B:Int)/\∃ (C:Bool) (D:OA) (E F:Nat) (G:Bool) (H:OA) (J L:Nat),b.cell? (Addr.add (e.add (a.toNat*4)) 0)=some (.bool C)/\b.cell? (Addr.add (e.add (a.toNat*4)) 1)=some (.slice D E F)/\b.cell? (Addr.add (e.add (a.toNat*4)) 2)=some (.bool G)/\b.cell? (Addr.add (e.add (a.toNat*4)) 3)=some (.slice H J L)/\FCall P f_NRMul #[.agg #[.bool b4,.slice b5 b6 b7,.bool b8,.slice b9 c0 c1],.agg #[.bool C,.slice D E F,.bool G,.slice H J L]] b (fun c9 k=>∃ (M:Bool) (N:OA) (O Q:Nat) (R:Bool) (S:OA) (T V:Nat),c9= .agg #[.bool M,.slice N O Q,.bool R,.slice S T V]/\Heap.le b k/\FCall P f_NRSub #[.agg #[.bool s,.slice t u v,.bool w,.slice x y z],.agg #[.bool M,.slice N O Q,.bool R,.slice S T V]] k (fun d0 a5=>∃ (W:Bool) (X:OA) (Z a0:Nat) (a1:Bool) (a2:OA) (a3 a4:Nat),d0= .agg #[.bool W,.slice X Z a0,.bool a1,.slice a2 a3 a4]/\Heap.le k a5/\∃ b1,o=some b1/\0<=a/\a<(p:Int)/\wpH P (Instr.storeAt 54 (.pointer (some (b1.add (a.toNat*4)))) (.agg #[.bool W,.slice X Z a0,.bool a1,.slice a2 a3 a4])) (fun _ a6=>j [I (wi64 (a+1))] a6/\m [I (wi64 (a+1))] a6<m [I a] b) a5)))
 (b3 [I (wi64 (c+1))] b/\l [I (wi64 (c+1))] b<l [I c] c3)
def FEchelonL23(P:Program)(v:OA)(i:Nat)(S:List Value->Heap->Prop)(w:List Value->Heap->Nat)(x:OA)(g y:Nat)(c:Int)(T:Bool)(V:OA)(W X:Nat)(Z:Bool)(a0:OA)(a1 a2:Nat)(z:Bool)(A:OA)(B C:Nat)(D:Bool)(E:OA)(F G:Nat)(a3:Heap)(a4:Heap):Prop:=
 ∃ (d:List Value->Heap->Prop) (e:List Value->Heap->Nat),d [I 0] a4/\
 ∀ (a:Int),∀ b,d [I a] b->Br (decide (a<(i:Int))) (∃ R,v=some R/\0<=a/\a<(i:Int)/\∃ (H:OA) (J a5:Nat),b.cell? (R.add (a.toNat*1))=some (.slice H J a5)/\∃ f,H=some f/\0<=c/\c<(J:Int)/\∃ (j:Bool) (k:OA) (l m:Nat) (n:Bool) (o:OA) (p q:Nat),b.cell? (Addr.add (f.add (c.toNat*4)) 0)=some (.bool j)/\b.cell? (Addr.add (f.add (c.toNat*4)) 1)=some (.slice k l m)/\b.cell? (Addr.add (f.add (c.toNat*4)) 2)=some (.bool n)/\b.cell? (Addr.add (f.add (c.toNat*4)) 3)=some (.slice o p q)/\Br (a==(g:Int)) (d [I (wi64 (a+1))] b/\e [I (wi64 (a+1))] b<e [I a] b)
 (FCall P f_NRSign #[.agg #[.bool j,.slice k l m,.bool n,.slice o p q]] b (fun a6 u=>∃ (L:Int),a6=I L/\Br (L==(0:Int)) (d [I (wi64 (a+1))] u/\e [I (wi64 (a+1))] u<e [I a] b)
 (FEchelonL28 P v i g c d e a j k l m n o p q u b))))
 (wpH P (Instr.buildSlice 27 1 #[(0,I c)]) (fun a7 a8=>∃ (M:OA) (N O:Nat),a7= .slice M N O/\wpH P (Builtin.append_ #[27,27] 27 #[.slice x g y,.slice M N O]) (fun a9 Q=>∃ (r:OA) (s t:Nat),a9= .slice r s t/\S [.slice r s t,I (wi64 (c+1)),.bool z,.slice A B C,.bool D,.slice E F G] Q/\w [.slice r s t,I (wi64 (c+1)),.bool z,.slice A B C,.bool D,.slice E F G] Q<w [.slice x g y,I c,.bool T,.slice V W X,.bool Z,.slice a0 a1 a2] a3) a8) b)
def FEchelonL19(P:Program)(e:OA)(f:Nat)(M:List Value->Heap->Prop)(N:List Value->Heap->Nat)(O:OA)(c Q:Nat)(R:Int)(S:Bool)(T:OA)(V W:Nat)(X:Bool)(Z:OA)(a0 a1:Nat)(a2:Bool)(a3:OA)(a4 a5:Nat)(a6:Bool)(a7:OA)(a8 a9:Nat)(b0:Bool)(b1:OA)(b2 b3:Nat)(b4:Bool)(b5:OA)(b6 b7:Nat)(b8:Heap)(b9:Heap):Prop:=
 ∃ (g:List Value->Heap->Prop) (i:List Value->Heap->Nat),g [I 0] b8/\
 ∀ (a:Int),∀ b,g [I a] b->∃ G,e=some G/\0<=(c:Int)/\(c:Int)<(f:Int)/\∃ (c0:OA) (j c1:Nat),b.cell? (G.add (((c:Int)).toNat*1))=some (.slice c0 j c1)/\Br (decide (a<(j:Int))) (∃ H,e=some H/\0<=(c:Int)/\(c:Int)<(f:Int)/\∃ (k:OA) (l c2:Nat),b.cell? (H.add (((c:Int)).toNat*1))=some (.slice k l c2)/\∃ J,e=some J/\0<=(c:Int)/\(c:Int)<(f:Int)/\∃ (m:OA) (n c3:Nat),b.cell? (J.add (((c:Int)).toNat*1))=some (.slice m n c3)/\∃ d,m=some d/\0<=a/\a<(n:Int)/\∃ (o:Bool) (p:OA) (q r:Nat) (s:Bool) (t:OA) (u v:Nat),b.cell? (Addr.add (d.add (a.toNat*4)) 0)=some (.bool o)/\b.cell? (Addr.add (d.add (a.toNat*4)) 1)=some (.slice p q r)/\b.cell? (Addr.add (d.add (a.toNat*4)) 2)=some (.bool s)/\b.cell? (Addr.add (d.add (a.toNat*4)) 3)=some (.slice t u v)/\FCall P f_NRDiv #[.agg #[.bool o,.slice p q r,.bool s,.slice t u v],.agg #[.bool a2,.slice a3 a4 a5,.bool a6,.slice a7 a8 a9]] b (fun c4 E=>∃ (w:Bool) (x:OA) (y z:Nat) (A:Bool) (B:OA) (C D:Nat),c4= .agg #[.bool w,.slice x y z,.bool A,.slice B C D]/\Heap.le b E/\∃ L,k=some L/\0<=a/\a<(l:Int)/\wpH P (Instr.storeAt 54 (.pointer (some (L.add (a.toNat*4)))) (.agg #[.bool w,.slice x y z,.bool A,.slice B C D])) (fun _ F=>g [I (wi64 (a+1))] F/\i [I (wi64 (a+1))] F<i [I a] b) E))
 (FEchelonL23 P e f M N O c Q R S T V W X Z a0 a1 b0 b1 b2 b3 b4 b5 b6 b7 b9 b)
def FEchelonC16(P:Program)(n:OA)(o:Nat)(A:List Value->Heap->Prop)(B:List Value->Heap->Nat)(C:OA)(d D:Nat)(a:Int)(E:Bool)(F:OA)(G H:Nat)(J:Bool)(L:OA)(M N:Nat)(O:Bool)(Q:OA)(R S:Nat)(T:Bool)(V:OA)(W X:Nat)(Z:Heap)(b:Heap):Prop:=
 ∃ z,n=some z/\0<=(d:Int)/\(d:Int)<(o:Int)/\∃ (p:OA) (q a0:Nat),b.cell? (z.add (((d:Int)).toNat*1))=some (.slice p q a0)/\∃ c,p=some c/\0<=a/\a<(q:Int)/\∃ (e:Bool) (f:OA) (g i:Nat) (j:Bool) (k:OA) (l m:Nat),b.cell? (Addr.add (c.add (a.toNat*4)) 0)=some (.bool e)/\b.cell? (Addr.add (c.add (a.toNat*4)) 1)=some (.slice f g i)/\b.cell? (Addr.add (c.add (a.toNat*4)) 2)=some (.bool j)/\b.cell? (Addr.add (c.add (a.toNat*4)) 3)=some (.slice k l m)/\FCall P f_NRMul #[.agg #[.bool O,.slice Q R S,.bool T,.slice V W X],.agg #[.bool e,.slice f g i,.bool j,.slice k l m]] b (fun a1 a2=>∃ (r:Bool) (s:OA) (t u:Nat) (v:Bool) (w:OA) (x y:Nat),a1= .agg #[.bool r,.slice s t u,.bool v,.slice w x y]/\FEchelonL19 P n o A B C d D a E F G H J L M N e f g i j k l m r s t u v w x y a2 Z)
def FEchelonC11(P:Program)(e:OA)(c:Nat)(t:List Value->Heap->Prop)(r:List Value->Heap->Nat)(f:OA)(a g:Nat)(i:Int)(j:Bool)(k:OA)(l m:Nat)(n:Bool)(o:OA)(p q:Nat)(b:Int)(u:Heap)(d:Heap):Prop:=
 Br (b==(c:Int)) (t [.slice f a g,I (wi64 (i+1)),.bool false,.slice none 0 0,.bool false,.slice none 0 0] d/\r [.slice f a g,I (wi64 (i+1)),.bool false,.slice none 0 0,.bool false,.slice none 0 0] d<r [.slice f a g,I i,.bool j,.slice k l m,.bool n,.slice o p q] u)
 (∃ (s:List Value->Heap->Prop),(Br (b != (a:Int)) (∃ V,e=some V/\0<=(a:Int)/\(a:Int)<(c:Int)/\∃ (v:OA) (w x:Nat),d.cell? (V.add (((a:Int)).toNat*1))=some (.slice v w x)/\∃ W,e=some W/\0<=b/\b<(c:Int)/\∃ (y:OA) (z A:Nat),d.cell? (W.add (b.toNat*1))=some (.slice y z A)/\∃ X,e=some X/\0<=b/\b<(c:Int)/\wpH P (Instr.storeAt 43 (.pointer (some (X.add (b.toNat*1)))) (.slice v w x)) (fun _ a1=>∃ Z,e=some Z/\0<=(a:Int)/\(a:Int)<(c:Int)/\wpH P (Instr.storeAt 43 (.pointer (some (Z.add (((a:Int)).toNat*1)))) (.slice y z A)) (fun _ a2=>FCall P f_NRNeg #[.agg #[.bool j,.slice k l m,.bool n,.slice o p q]] a2 (fun a3 a4=>∃ (B:Bool) (C:OA) (D E:Nat) (F:Bool) (G:OA) (H J:Nat),a3= .agg #[.bool B,.slice C D E,.bool F,.slice G H J]/\s [.bool B,.slice C D E,.bool F,.slice G H J] a4)) a1) d)
 (s [.bool j,.slice k l m,.bool n,.slice o p q] d))/\
 ∀ (L:Bool) (M:OA) (N O:Nat) (Q:Bool) (R:OA) (S T:Nat),∀ a0,s [.bool L,.slice M N O,.bool Q,.slice R S T] a0->FEchelonC16 P e c t r f a g i j k l m n o p q L M N O Q R S T u a0)
def FEchelon(P:Program)(a1:OA)(a2 a3:Nat)(u:Int)(h:Heap)(K:Value->Heap->Prop):Prop:=
 FCall P f_FCopy #[.slice a1 a2 a3] h (fun a6 a7=>∃ (f:OA) (c k:Nat),a6= .slice f c k/\FCall P f_NR #[I 1] a7 (fun a8 a9=>∃ (z:Bool) (A:OA) (B C:Nat) (D:Bool) (E:OA) (F G:Nat),a8= .agg #[.bool z,.slice A B C,.bool D,.slice E F G]/\∃ (v:List Value->Heap->Prop) (a4:List Value->Heap->Nat),v [.slice none 0 0,I 0,.bool z,.slice A B C,.bool D,.slice E F G] a9/\
 ∀ (i:OA) (a j:Nat) (d:Int) (m:Bool) (n:OA) (o p:Nat) (q:Bool) (r:OA) (s t:Nat),∀ g,v [.slice i a j,I d,.bool m,.slice n o p,.bool q,.slice r s t] g->Br (decide (d<u)) (Br (decide ((a:Int)<(c:Int))) (∃ (w:List Value->Heap->Prop),(∃ (x:List Value->Heap->Prop) (H:List Value->Heap->Nat),x [I (a:Int)] g/\
 ∀ (b:Int),∀ e,x [I b] e->Br (decide (b<(c:Int))) (∃ Z,f=some Z/\0<=b/\b<(c:Int)/\∃ (J:OA) (L a5:Nat),e.cell? (Z.add (b.toNat*1))=some (.slice J L a5)/\∃ l,J=some l/\0<=d/\d<(L:Int)/\∃ (M:Bool) (N:OA) (O Q:Nat) (R:Bool) (S:OA) (T V:Nat),e.cell? (Addr.add (l.add (d.toNat*4)) 0)=some (.bool M)/\e.cell? (Addr.add (l.add (d.toNat*4)) 1)=some (.slice N O Q)/\e.cell? (Addr.add (l.add (d.toNat*4)) 2)=some (.bool R)/\e.cell? (Addr.add (l.add (d.toNat*4)) 3)=some (.slice S T V)/\FCall P f_NRSign #[.agg #[.bool M,.slice N O Q,.bool R,.slice S T V]] e (fun b0 y=>∃ (W:Int),b0=I W/\Br (W==(0:Int)) (x [I (wi64 (b+1))] y/\H [I (wi64 (b+1))] y<H [I b] e)
 (w [I b] y)))
 (w [I b] e))/\
 ∀ (X:Int),∀ a0,w [I X] a0->FEchelonC11 P f c v a4 i a j d m n o p q r s t X g a0)
 (Br (decide ((a:Int)<u)) (K (.tuple #[.slice f c k,.slice i a j,.agg #[.bool false,.slice none 0 0,.bool false,.slice none 0 0]]) g)
 (K (.tuple #[.slice f c k,.slice i a j,.agg #[.bool m,.slice n o p,.bool q,.slice r s t]]) g)))
 (Br (decide ((a:Int)<u)) (K (.tuple #[.slice f c k,.slice i a j,.agg #[.bool false,.slice none 0 0,.bool false,.slice none 0 0]]) g)
 (K (.tuple #[.slice f c k,.slice i a j,.agg #[.bool m,.slice n o p,.bool q,.slice r s t]]) g))))
theorem FEchelon_ok(a:OA)(b d:Nat)(e:Int)(hvc:FEchelon Tryz.prog a b d e h K):FCall Tryz.prog f_FEchelon #[.slice a b d,I e] h K:=
 fn_sound Tryz.func72 (c:=codeOf Tryz.f72) (by kernel_rfl) (rs:=[.tmp 4,.tmp 5,.cell 6 54]) (by kernel_rfl) (fa:={ loops:=[(5,{ slots:=[8,10],owns:=[(9,4)],zs:=[.slice none 0 0,.int .i64 0,.bool false,.slice none 0 0,.bool false,.slice none 0 0],lim:={ slots:=([8]++List.range' 10 8++List.range' 21 148),keys:=[9,13,16] } }),(9,{ slots:=[12],owns:=[],zs:=[.int .i64 0],lim:={ slots:=([12]++List.range' 36 17),keys:=[] } }),(19,{ slots:=[14],owns:=[],zs:=[.int .i64 0],lim:={ slots:=([14]++List.range' 87 24),keys:=[] } }),(23,{ slots:=[15],owns:=[],zs:=[.int .i64 0],lim:={ slots:=([15,16,17]++List.range' 111 54),keys:=[16] } }),(28,{ slots:=[17],owns:=[],zs:=[.int .i64 0],lim:={ slots:=([17]++List.range' 133 32),keys:=[] } })],cuts:=[(11,{ slots:=[12],owns:=[],zs:=[.int .i64 0],lim:={ slots:=([12]++List.range' 36 17),keys:=[] } }),(16,{ slots:=[],owns:=[(9,4)],zs:=[.bool false,.slice none 0 0,.bool false,.slice none 0 0],lim:={ slots:=(List.range' 58 19),keys:=[9] } })],orders:=[(14,((List.range' 0 16),[[],[],[],[],[],[],[4,5],[4,5,6],[],[],[8,9],[8,9,10],([0,1]++List.range' 4 8),([0,1]++List.range' 4 9),(List.range' 0 14),(List.range' 0 15)])),(21,((List.range' 0 16),[[],[],[0,1],[0,1,2],[],[],[],[5,6],[5,6,7],[],[5,6,7,8,9],[5,6,7,8,9,10],[],(List.range' 5 8),(List.range' 0 14),(List.range' 0 15)])),(30,((List.range' 0 24),[[],[],[0,1],[0,1,2],[],[],[],[5,6],[5,6,7],[],[5,6,7,8,9],[5,6,7,8,9,10],[],[],[],[13,14],[13,14,15],[],[13,14,15,16,17],[13,14,15,16,17,18],(List.range' 12 8),(List.range' 5 16),(List.range' 0 22),(List.range' 0 23)])),(34,([0,1,2,3,4,5],[[],[],[],[0],[0,1,3],[0,1,2,3,4]]))] })
  (cfg:={ n:=177,own:=[6,9,13,16],lim:=none,fns:=[32,59,88,105,106,107,140],wr:=[] }) (args:=[.slice a b d,I e]) (by kernel_rfl) (Bodies.cons Tryz.call32 (Bodies.cons Tryz.call59 (Bodies.cons Tryz.call88 (Bodies.cons Tryz.call105 (Bodies.cons Tryz.call106 (Bodies.cons Tryz.call107 (Bodies.cons Tryz.call140 Bodies.nil))))))) (Eq.mp (by kernel_rfl:FEchelon Tryz.prog a b d e h K=_) hvc)
def FReduce(P:Program)(s:Int)(a:Int)(t:OA)(u v:Nat)(h:Heap)(K:Value->Heap->Prop):Prop:=
 FCall P f_FRows #[.agg #[I s,I a,.slice t u v]] h (fun E r=>∃ (b:OA) (c d:Nat) (e:Bool),E= .tuple #[.slice b c d,.bool e]/\Br (!e) (K (.tuple #[.agg #[I 0,I 0,.slice none 0 0],.slice none 0 0,I 1]) r)
 (FCall P f_FEchelon #[.slice b c d,I a] r (fun F G=>∃ (f:OA) (g i:Nat) (j:OA) (k l:Nat) (w:Bool) (x:OA) (y z:Nat) (A:Bool) (B:OA) (C D:Nat),F= .tuple #[.slice f g i,.slice j k l,.agg #[.bool w,.slice x y z,.bool A,.slice B C D]]/\FCall P f_FPack #[.slice f g i] G (fun H J=>∃ (m:Int) (n:Int) (o:OA) (p q:Nat),H= .agg #[I m,I n,.slice o p q]/\K (.tuple #[.agg #[I m,I n,.slice o p q],.slice j k l,I 0]) J))))
theorem FReduce_ok(a:Int)(b:Int)(d:OA)(e f:Nat)(hvc:FReduce Tryz.prog a b d e f h K):FCall Tryz.prog f_FReduce #[.agg #[I a,I b,.slice d e f]] h K:=
 fn_sound Tryz.func16 (c:=codeOf Tryz.f16) (by kernel_rfl) (rs:=[.cell 2 24,.tmp 3,.tmp 4]) (by kernel_rfl) (fa:={ loops:=[],cuts:=[],orders:=[] })
  (cfg:={ n:=29,own:=[1,2,9],lim:=none,fns:=[27,72,73],wr:=[] }) (args:=[.agg #[I a,I b,.slice d e f]]) (by kernel_rfl) (Bodies.cons Tryz.call27 (Bodies.cons Tryz.call72 (Bodies.cons Tryz.call73 Bodies.nil))) (Eq.mp (by kernel_rfl:FReduce Tryz.prog a b d e f h K=_) hvc)
def FNull(P:Program)(y:OA)(z c3:Nat)(h:Heap)(K:Value->Heap->Prop):Prop:=
 ∃ b6,y=some b6/\0<=(0:Int)/\(0:Int)<(z:Int)/\∃ (c4:OA) (j c5:Nat),h.cell? (b6.add (((0:Int)).toNat*1))=some (.slice c4 j c5)/\FCall P f_FEchelon #[.slice y z c3,I (j:Int)] h (fun d7 d8=>∃ (A:OA) (B c6:Nat) (r:OA) (k c7:Nat) (c8:Bool) (c9:OA) (d0 d1:Nat) (d2:Bool) (d3:OA) (d4 d5:Nat),d7= .tuple #[.slice A B c6,.slice r k c7,.agg #[.bool c8,.slice c9 d0 d1,.bool d2,.slice d3 d4 d5]]/\∃ (m:List Value->Heap->Prop) (n:List Value->Heap->Nat),m [.slice none 0 0,I 0,I 0] d8/\
 ∀ (f:OA) (g i:Nat) (b:Int) (a:Int),∀ e,m [.slice f g i,I b,I a] e->Br (decide (a<(j:Int))) (∃ (s:List Value->Heap->Prop),(Br (decide (b<(k:Int))) (∃ b7,r=some b7/\0<=b/\b<(k:Int)/\∃ (C:Int),e.cell? (b7.add (b.toNat*1))=some (I C)/\Br (C==a) (m [.slice f g i,I (wi64 (b+1)),I (wi64 (a+1))] e/\n [.slice f g i,I (wi64 (b+1)),I (wi64 (a+1))] e<n [.slice f g i,I b,I a] e)
 (s [I b] e))
 (s [I b] e))/\
 ∀ (t:Int),∀ b8,s [I t] b8->wpH P (Instr.makeSlice 43 (I (j:Int)) (I (j:Int))) (fun d9 e0=>∃ (o:OA) (p D:Nat),d9= .slice o p D/\FCall P f_NR #[I 1] e0 (fun e1 e2=>∃ (E:Bool) (F:OA) (G H:Nat) (J:Bool) (L:OA) (M N:Nat),e1= .agg #[.bool E,.slice F G H,.bool J,.slice L M N]/\∃ b9,o=some b9/\0<=a/\a<(p:Int)/\wpH P (Instr.storeAt 54 (.pointer (some (b9.add (a.toNat*4)))) (.agg #[.bool E,.slice F G H,.bool J,.slice L M N])) (fun _ e3=>∃ (u:List Value->Heap->Prop) (O:List Value->Heap->Nat),u [I 0] e3/\
 ∀ (c:Int),∀ d,u [I c] d->Br (decide (c<(k:Int))) (∃ c0,r=some c0/\0<=c/\c<(k:Int)/\∃ (q:Int),d.cell? (c0.add (c.toNat*1))=some (I q)/\∃ c1,A=some c1/\0<=c/\c<(B:Int)/\∃ (Q:OA) (R d6:Nat),d.cell? (c1.add (c.toNat*1))=some (.slice Q R d6)/\∃ l,Q=some l/\0<=a/\a<(R:Int)/\∃ (S:Bool) (T:OA) (V W:Nat) (X:Bool) (Z:OA) (a0 a1:Nat),d.cell? (Addr.add (l.add (a.toNat*4)) 0)=some (.bool S)/\d.cell? (Addr.add (l.add (a.toNat*4)) 1)=some (.slice T V W)/\d.cell? (Addr.add (l.add (a.toNat*4)) 2)=some (.bool X)/\d.cell? (Addr.add (l.add (a.toNat*4)) 3)=some (.slice Z a0 a1)/\FCall P f_NRNeg #[.agg #[.bool S,.slice T V W,.bool X,.slice Z a0 a1]] d (fun e4 b3=>∃ (a2:Bool) (a3:OA) (a4 a5:Nat) (a6:Bool) (a7:OA) (a8 a9:Nat),e4= .agg #[.bool a2,.slice a3 a4 a5,.bool a6,.slice a7 a8 a9]/\Heap.le d b3/\∃ c2,o=some c2/\0<=q/\q<(p:Int)/\wpH P (Instr.storeAt 54 (.pointer (some (c2.add (q.toNat*4)))) (.agg #[.bool a2,.slice a3 a4 a5,.bool a6,.slice a7 a8 a9])) (fun _ b4=>u [I (wi64 (c+1))] b4/\O [I (wi64 (c+1))] b4<O [I c] d) b3))
 (wpH P (Instr.buildSlice 46 1 #[(0,.slice o p D)]) (fun e5 e6=>∃ (b0:OA) (b1 b2:Nat),e5= .slice b0 b1 b2/\wpH P (Builtin.append_ #[46,46] 46 #[.slice f g i,.slice b0 b1 b2]) (fun e7 b5=>∃ (v:OA) (w x:Nat),e7= .slice v w x/\m [.slice v w x,I t,I (wi64 (a+1))] b5/\n [.slice v w x,I t,I (wi64 (a+1))] b5<n [.slice f g i,I b,I a] e) e6) d)) e2)) b8)
 (K (.slice f g i) e))
theorem FNull_ok(a:OA)(b d:Nat)(hvc:FNull Tryz.prog a b d h K):FCall Tryz.prog f_FNull #[.slice a b d] h K:=
 fn_sound Tryz.func78 (c:=codeOf Tryz.f78) (by kernel_rfl) (rs:=[.tmp 2]) (by kernel_rfl) (fa:={ loops:=[(6,{ slots:=[7,8,9],owns:=[],zs:=[.slice none 0 0,.int .i64 0,.int .i64 0],lim:={ slots:=([7,8,9,10,11]++List.range' 23 49),keys:=[] } }),(13,{ slots:=[11],owns:=[],zs:=[.int .i64 0],lim:={ slots:=([11]++List.range' 48 20),keys:=[] } })],cuts:=[(10,{ slots:=[8],owns:=[],zs:=[.int .i64 0],lim:={ slots:=([8]++List.range' 28 14),keys:=[] } })],orders:=[(15,((List.range' 0 15),[[],[],[],[1,2],[1,2,3],[],[],[5,6],[5,6,7],[],[5,6,7,8,9],[5,6,7,8,9,10],[5,6,7,8,9,10,11],(List.range' 0 13),(List.range' 0 14)]))] })
  (cfg:={ n:=73,own:=[6],lim:=none,fns:=[59,72,140],wr:=[] }) (args:=[.slice a b d]) (by kernel_rfl) (Bodies.cons Tryz.call59 (Bodies.cons Tryz.call72 (Bodies.cons Tryz.call140 Bodies.nil))) (Eq.mp (by kernel_rfl:FNull Tryz.prog a b d h K=_) hvc)
def FKernel(P:Program)(o:Int)(p:Int)(q:OA)(r s:Nat)(h:Heap)(K:Value->Heap->Prop):Prop:=
 FCall P f_FRows #[.agg #[I o,I p,.slice q r s]] h (fun t n=>∃ (a:OA) (b c:Nat) (d:Bool),t= .tuple #[.slice a b c,.bool d]/\Br (!d) (K (.tuple #[.agg #[I 0,I 0,.slice none 0 0],I 1]) n)
 (FCall P f_FNull #[.slice a b c] n (fun u v=>∃ (e:OA) (f g:Nat),u= .slice e f g/\FCall P f_FPack #[.slice e f g] v (fun w x=>∃ (i:Int) (j:Int) (k:OA) (l m:Nat),w= .agg #[I i,I j,.slice k l m]/\K (.tuple #[.agg #[I i,I j,.slice k l m],I 0]) x))))
theorem FKernel_ok(a:Int)(b:Int)(d:OA)(e f:Nat)(hvc:FKernel Tryz.prog a b d e f h K):FCall Tryz.prog f_FKernel #[.agg #[I a,I b,.slice d e f]] h K:=
 fn_sound Tryz.func19 (c:=codeOf Tryz.f19) (by kernel_rfl) (rs:=[.cell 2 24,.tmp 3]) (by kernel_rfl) (fa:={ loops:=[],cuts:=[],orders:=[] })
  (cfg:={ n:=17,own:=[1,2],lim:=none,fns:=[27,73,78],wr:=[] }) (args:=[.agg #[I a,I b,.slice d e f]]) (by kernel_rfl) (Bodies.cons Tryz.call27 (Bodies.cons Tryz.call73 (Bodies.cons Tryz.call78 Bodies.nil))) (Eq.mp (by kernel_rfl:FKernel Tryz.prog a b d e f h K=_) hvc)
def KShort(P:Program)(i:Int)(j:OA)(d k:Nat)(h:Heap)(K:Value->Heap->Prop):Prop:=
 ∃ (c:List Value->Heap->Prop) (e:List Value->Heap->Nat),c [I 0] h/\
 ∀ (a:Int),∀ b,c [I a] b->Br (decide (a<(d:Int))) (∃ g,j=some g/\0<=a/\a<(d:Int)/\∃ (f:ByteArray),b.cell? (g.add (a.toNat*1))=some (.string f)/\Br (decide (((ByteArray.size f:Nat):Int)>i)) (K (.bool false) b)
 (c [I (wi64 (a+1))] b/\e [I (wi64 (a+1))] b<e [I a] b))
 (K (.bool true) b)
theorem KShort_ok(a:Int)(b:OA)(d e:Nat)(hvc:KShort Tryz.prog a b d e h K):FCall Tryz.prog f_KShort #[I a,.slice b d e] h K:=
 fn_sound Tryz.func22 (c:=codeOf Tryz.f22) (by kernel_rfl) (rs:=[.tmp 4]) (by kernel_rfl) (fa:={ loops:=[(2,{ slots:=[5],owns:=[],zs:=[.int .i64 0],lim:={ slots:=(List.range' 4 15),keys:=[] } })],cuts:=[],orders:=[] })
  (cfg:={ n:=19,own:=[],lim:=none,fns:=[],wr:=[] }) (args:=[I a,.slice b d e]) (by kernel_rfl) Bodies.nil (Eq.mp (by kernel_rfl:KShort Tryz.prog a b d e h K=_) hvc)
def KSmallMatrix(P:Program)(d:Int)(e:Int)(f:OA)(b g:Nat)(a:Int)(i:Int)(h:Heap)(K:Value->Heap->Prop):Prop:=
 Br (decide (d<=a)) (Br (decide (e<=a)) (Br (decide ((b:Int)<=(wi64 ((wi64 (a*a))+2)))) (FCall P f_KShort #[I i,.slice f b g] h (fun j k=>∃ (c:Bool),j= .bool c/\K (.bool c) k))
 (K (.bool false) h))
 (K (.bool false) h))
 (K (.bool false) h)
theorem KSmallMatrix_ok(b:Int)(d:Int)(e:OA)(f g:Nat)(a:Int)(i:Int)(hvc:KSmallMatrix Tryz.prog b d e f g a i h K):FCall Tryz.prog f_KSmallMatrix #[.agg #[I b,I d,.slice e f g],I a,I i] h K:=
 fn_sound Tryz.func48 (c:=codeOf Tryz.f48) (by kernel_rfl) (rs:=[.tmp 6]) (by kernel_rfl) (fa:={ loops:=[],cuts:=[],orders:=[] })
  (cfg:={ n:=33,own:=[3],lim:=none,fns:=[22],wr:=[] }) (args:=[.agg #[I b,I d,.slice e f g],I a,I i]) (by kernel_rfl) (Bodies.cons Tryz.call22 Bodies.nil) (Eq.mp (by kernel_rfl:KSmallMatrix Tryz.prog b d e f g a i h K=_) hvc)
def KStrings(P:Program)(l:OA)(c n:Nat)(m:OA)(e o:Nat)(h:Heap)(K:Value->Heap->Prop):Prop:=
 Br ((c:Int) != (e:Int)) (K (.bool false) h)
 (∃ (d:List Value->Heap->Prop) (f:List Value->Heap->Nat),d [I 0] h/\
 ∀ (a:Int),∀ b,d [I a] b->Br (decide (a<(c:Int))) (∃ j,l=some j/\0<=a/\a<(c:Int)/\∃ (g:ByteArray),b.cell? (j.add (a.toNat*1))=some (.string g)/\∃ k,m=some k/\0<=a/\a<(e:Int)/\∃ (i:ByteArray),b.cell? (k.add (a.toNat*1))=some (.string i)/\Br (!(ByteArray.toList g==ByteArray.toList i)) (K (.bool false) b)
 (d [I (wi64 (a+1))] b/\f [I (wi64 (a+1))] b<f [I a] b))
 (K (.bool true) b))
theorem KStrings_ok(a:OA)(b d:Nat)(e:OA)(f g:Nat)(hvc:KStrings Tryz.prog a b d e f g h K):FCall Tryz.prog f_KStrings #[.slice a b d,.slice e f g] h K:=
 fn_sound Tryz.func25 (c:=codeOf Tryz.f25) (by kernel_rfl) (rs:=[.tmp 4]) (by kernel_rfl) (fa:={ loops:=[(4,{ slots:=[5],owns:=[],zs:=[.int .i64 0],lim:={ slots:=([4,5]++List.range' 11 15),keys:=[] } })],cuts:=[],orders:=[(6,((List.range' 0 9),[[],[],[0,1],[0,1,2],[],[],[4,5],[4,5,6],(List.range' 0 8)]))] })
  (cfg:={ n:=26,own:=[],lim:=none,fns:=[],wr:=[] }) (args:=[.slice a b d,.slice e f g]) (by kernel_rfl) Bodies.nil (Eq.mp (by kernel_rfl:KStrings Tryz.prog a b d e f g h K=_) hvc)
def KInts(P:Program)(l:OA)(c n:Nat)(m:OA)(e o:Nat)(h:Heap)(K:Value->Heap->Prop):Prop:=
 Br ((c:Int) != (e:Int)) (K (.bool false) h)
 (∃ (d:List Value->Heap->Prop) (f:List Value->Heap->Nat),d [I 0] h/\
 ∀ (a:Int),∀ b,d [I a] b->Br (decide (a<(c:Int))) (∃ j,l=some j/\0<=a/\a<(c:Int)/\∃ (g:Int),b.cell? (j.add (a.toNat*1))=some (I g)/\∃ k,m=some k/\0<=a/\a<(e:Int)/\∃ (i:Int),b.cell? (k.add (a.toNat*1))=some (I i)/\Br (g != i) (K (.bool false) b)
 (d [I (wi64 (a+1))] b/\f [I (wi64 (a+1))] b<f [I a] b))
 (K (.bool true) b))
theorem KInts_ok(a:OA)(b d:Nat)(e:OA)(f g:Nat)(hvc:KInts Tryz.prog a b d e f g h K):FCall Tryz.prog f_KInts #[.slice a b d,.slice e f g] h K:=
 fn_sound Tryz.func21 (c:=codeOf Tryz.f21) (by kernel_rfl) (rs:=[.tmp 4]) (by kernel_rfl) (fa:={ loops:=[(4,{ slots:=[5],owns:=[],zs:=[.int .i64 0],lim:={ slots:=([4,5]++List.range' 11 15),keys:=[] } })],cuts:=[],orders:=[(6,((List.range' 0 9),[[],[],[0,1],[0,1,2],[],[],[4,5],[4,5,6],(List.range' 0 8)]))] })
  (cfg:={ n:=26,own:=[],lim:=none,fns:=[],wr:=[] }) (args:=[.slice a b d,.slice e f g]) (by kernel_rfl) Bodies.nil (Eq.mp (by kernel_rfl:KInts Tryz.prog a b d e f g h K=_) hvc)
def KMatrices(P:Program)(b:Int)(c:Int)(d:OA)(e f:Nat)(g:Int)(i:Int)(j:OA)(k l:Nat)(h:Heap)(K:Value->Heap->Prop):Prop:=
 Br (b==g) (Br (c==i) (FCall P f_KStrings #[.slice d e f,.slice j k l] h (fun m n=>∃ (a:Bool),m= .bool a/\K (.bool a) n))
 (K (.bool false) h))
 (K (.bool false) h)
theorem KMatrices_ok(a:Int)(b:Int)(d:OA)(e f:Nat)(g:Int)(i:Int)(j:OA)(k l:Nat)(hvc:KMatrices Tryz.prog a b d e f g i j k l h K):FCall Tryz.prog f_KMatrices #[.agg #[I a,I b,.slice d e f],.agg #[I g,I i,.slice j k l]] h K:=
 fn_sound Tryz.func20 (c:=codeOf Tryz.f20) (by kernel_rfl) (rs:=[.tmp 4]) (by kernel_rfl) (fa:={ loops:=[],cuts:=[],orders:=[] })
  (cfg:={ n:=24,own:=[2,3],lim:=none,fns:=[25],wr:=[] }) (args:=[.agg #[I a,I b,.slice d e f],.agg #[I g,I i,.slice j k l]]) (by kernel_rfl) (Bodies.cons Tryz.call25 Bodies.nil) (Eq.mp (by kernel_rfl:KMatrices Tryz.prog a b d e f g i j k l h K=_) hvc)
def LAwake(P:Program) (h:Heap)(K:Value->Heap->Prop):Prop:=
 wpH P (Instr.buildSlice 22 4 #[(0,.string ({ data:=#[50] }:ByteArray)),(1,.string ({ data:=#[52] }:ByteArray)),(2,.string ({ data:=#[49] }:ByteArray)),(3,.string ({ data:=#[50] }:ByteArray))]) (fun D E=>∃ (b:OA) (c d:Nat),D= .slice b c d/\FCall P f_MReduce #[.agg #[I 2,I 2,.slice b c d]] E (fun F G=>∃ (B:Int) (C:Int) (e:OA) (f g:Nat) (i:OA) (j k:Nat) (l:Int),F= .tuple #[.agg #[I B,I C,.slice e f g],.slice i j k,I l]/\wpH P (Instr.buildSlice 22 4 #[(0,.string ({ data:=#[49] }:ByteArray)),(1,.string ({ data:=#[50] }:ByteArray)),(2,.string ({ data:=#[51] }:ByteArray)),(3,.string ({ data:=#[52] }:ByteArray))]) (fun H J=>∃ (m:OA) (n o:Nat),H= .slice m n o/\FCall P f_MDet #[.agg #[I 2,I 2,.slice m n o]] J (fun L z=>∃ (p:ByteArray) (q:Int),L= .tuple #[.string p,I q]/\Br (l==(0:Int)) (wpH P (Instr.buildSlice 22 4 #[(0,.string ({ data:=#[49] }:ByteArray)),(1,.string ({ data:=#[50] }:ByteArray)),(2,.string ({ data:=#[48] }:ByteArray)),(3,.string ({ data:=#[48] }:ByteArray))]) (fun M N=>∃ (r:OA) (s t:Nat),M= .slice r s t/\FCall P f_KStrings #[.slice e f g,.slice r s t] N (fun O A=>∃ (u:Bool),O= .bool u/\Br u (wpH P (Instr.buildSlice 27 1 #[(0,I 0)]) (fun Q R=>∃ (v:OA) (w x:Nat),Q= .slice v w x/\FCall P f_KInts #[.slice i j k,.slice v w x] R (fun S a=>∃ (y:Bool),S= .bool y/\Br y (Br (ByteArray.toList p==ByteArray.toList ({ data:=#[45,50] }:ByteArray)) (K (.bool (q==(0:Int))) a)
 (K (.bool false) a))
 (K (.bool false) a))) A)
 (K (.bool false) A))) z)
 (K (.bool false) z))) G)) h
theorem LAwake_ok (hvc:LAwake Tryz.prog  h K):FCall Tryz.prog f_LAwake #[] h K:=
 fn_sound Tryz.func14 (c:=codeOf Tryz.f14) (by kernel_rfl) (rs:=[.tmp 0]) (by kernel_rfl) (fa:={ loops:=[],cuts:=[],orders:=[] })
  (cfg:={ n:=42,own:=[1,2],lim:=none,fns:=[15,21,25,37],wr:=[] }) (args:=[]) (by kernel_rfl) (Bodies.cons Tryz.call15 (Bodies.cons Tryz.call21 (Bodies.cons Tryz.call25 (Bodies.cons Tryz.call37 Bodies.nil)))) (Eq.mp (by kernel_rfl:LAwake Tryz.prog  h K=_) hvc)
def LSmall(P:Program)(b:Int)(c:Int)(d:OA)(e f:Nat)(h:Heap)(K:Value->Heap->Prop):Prop:=
 FCall P f_KSmallMatrix #[.agg #[I b,I c,.slice d e f],I 6,I 12] h (fun g i=>∃ (a:Bool),g= .bool a/\K (.bool a) i)
theorem LSmall_ok(a:Int)(b:Int)(d:OA)(e f:Nat)(hvc:LSmall Tryz.prog a b d e f h K):FCall Tryz.prog f_LSmall #[.agg #[I a,I b,.slice d e f]] h K:=
 fn_sound Tryz.func13 (c:=codeOf Tryz.f13) (by kernel_rfl) (rs:=[.tmp 2]) (by kernel_rfl) (fa:={ loops:=[],cuts:=[],orders:=[] })
  (cfg:={ n:=5,own:=[1],lim:=none,fns:=[48],wr:=[] }) (args:=[.agg #[I a,I b,.slice d e f]]) (by kernel_rfl) (Bodies.cons Tryz.call48 Bodies.nil) (Eq.mp (by kernel_rfl:LSmall Tryz.prog a b d e f h K=_) hvc)
def LMatrixReduce(P:Program)(a:Int)(b:Int)(c:OA)(d e:Nat)(h:Heap)(K:Value->Heap->Prop):Prop:=
 FCall P f_LSmall #[.agg #[I a,I b,.slice c d e]] h (fun a1 Z=>∃ (k:Bool),a1= .bool k/\Br (!k) (FCall P f_LAwake #[] Z (fun a2 a3=>∃ (l:Bool),a2= .bool l/\K (.bool l) a3))
 (FCall P f_MReduce #[.agg #[I a,I b,.slice c d e]] Z (fun a4 a5=>∃ (m:Int) (n:Int) (o:OA) (p q:Nat) (r:OA) (s t:Nat) (u:Int),a4= .tuple #[.agg #[I m,I n,.slice o p q],.slice r s t,I u]/\FCall P f_FReduce #[.agg #[I a,I b,.slice c d e]] a5 (fun a6 a7=>∃ (v:Int) (w:Int) (x:OA) (y z:Nat) (A:OA) (g B:Nat) (i:Int),a6= .tuple #[.agg #[I v,I w,.slice x y z],.slice A g B,I i]/\FCall P f_MRank #[.agg #[I a,I b,.slice c d e]] a7 (fun a8 a9=>∃ (C:Int) (D:Int),a8= .tuple #[I C,I D]/\FCall P f_MKernel #[.agg #[I a,I b,.slice c d e]] a9 (fun b0 b1=>∃ (E:Int) (F:Int) (G:OA) (H J:Nat) (L:Int),b0= .tuple #[.agg #[I E,I F,.slice G H J],I L]/\FCall P f_FKernel #[.agg #[I a,I b,.slice c d e]] b1 (fun b2 b3=>∃ (M:Int) (N:Int) (O:OA) (Q R:Nat) (S:Int),b2= .tuple #[.agg #[I M,I N,.slice O Q R],I S]/\FCall P f_KMatrices #[.agg #[I m,I n,.slice o p q],.agg #[I v,I w,.slice x y z]] b3 (fun b4 a0=>∃ (T:Bool),b4= .bool T/\Br T (FCall P f_KInts #[.slice r s t,.slice A g B] a0 (fun b5 f=>∃ (V:Bool),b5= .bool V/\Br V (Br (u==i) (Br (C==(g:Int)) (Br (D==i) (FCall P f_KMatrices #[.agg #[I E,I F,.slice G H J],.agg #[I M,I N,.slice O Q R]] f (fun b6 j=>∃ (W:Bool),b6= .bool W/\Br W (Br (L==S) (FCall P f_LAwake #[] j (fun b7 b8=>∃ (X:Bool),b7= .bool X/\K (.bool X) b8))
 (K (.bool false) j))
 (K (.bool false) j)))
 (K (.bool false) f))
 (K (.bool false) f))
 (K (.bool false) f))
 (K (.bool false) f)))
 (K (.bool false) a0)))))))))
theorem LMatrixReduce_ok(a:Int)(b:Int)(d:OA)(e f:Nat)(hvc:LMatrixReduce Tryz.prog a b d e f h K):FCall Tryz.prog f_LMatrixReduce #[.agg #[I a,I b,.slice d e f]] h K:=
 fn_sound Tryz.func3 (c:=codeOf Tryz.f3) (by kernel_rfl) (rs:=[.tmp 2]) (by kernel_rfl) (fa:={ loops:=[],cuts:=[],orders:=[] })
  (cfg:={ n:=83,own:=[1,3,6,11,13],lim:=none,fns:=(List.range' 13 9),wr:=[] }) (args:=[.agg #[I a,I b,.slice d e f]]) (by kernel_rfl) (Bodies.cons Tryz.call13 (Bodies.cons Tryz.call14 (Bodies.cons Tryz.call15 (Bodies.cons Tryz.call16 (Bodies.cons Tryz.call17 (Bodies.cons Tryz.call18 (Bodies.cons Tryz.call19 (Bodies.cons Tryz.call20 (Bodies.cons Tryz.call21 Bodies.nil))))))))) (Eq.mp (by kernel_rfl:LMatrixReduce Tryz.prog a b d e f h K=_) hvc)
end Go.Proofs.YthilnfgnpdeofaaGreatDoor
