/-
  Texts of this proof, merged by a program of ours: VcU.
-/
import Derived.Test.YthilnfgnpdeofaaGreatDoorProg
import Derived.Test.YthilnfgnpdeofaaGreatDoorG05
import Derived.Test.YthilnfgnpdeofaaGreatDoorG06
/-
 Written by wip/tools/vcgen.py: what is asked of each function's body;each equation is checked by the kernel.
-/
namespace Go.Proofs.YthilnfgnpdeofaaGreatDoor
open Go
set_option maxRecDepth 100000
set_option linter.unusedVariables false
variable {h:Heap} {K:Value->Heap->Prop}
def UAddProduct(P:Program)(a:OA)(y:Bool)(d:OA)(b e:Nat)(z:Bool)(f:OA)(c g:Nat)(h:Heap)(K:Value->Heap->Prop):Prop:=
 Br ((b:Int)==(0:Int)) (K (.tuple #[]) h)
 (Br ((c:Int)==(0:Int)) (K (.tuple #[]) h)
 (Br (!(y==z)) (∃ u,a=some u/\∃ (i:OA) (j k:Nat),h.cell? (u.add 1)=some (.slice i j k)/\FCall P f_WAccumulate #[.slice i j k,.slice d b e,.slice f c g] h (fun A B=>∃ (l:OA) (m n:Nat),A= .slice l m n/\∃ v,a=some v/\wpH P (Instr.storeAt 92 (.pointer (some (v.add 1))) (.slice l m n)) (fun _ C=>K (.tuple #[]) C) B))
 (∃ w,a=some w/\∃ (o:OA) (p q:Nat),h.cell? (w.add 0)=some (.slice o p q)/\FCall P f_WAccumulate #[.slice o p q,.slice d b e,.slice f c g] h (fun D E=>∃ (r:OA) (s t:Nat),D= .slice r s t/\∃ x,a=some x/\wpH P (Instr.storeAt 92 (.pointer (some (x.add 0))) (.slice r s t)) (fun _ F=>K (.tuple #[]) F) E))))
theorem UAddProduct_ok(a:OA)(b:Bool)(d:OA)(e f:Nat)(g:Bool)(i:OA)(j k:Nat)(hvc:UAddProduct Tryz.prog a b d e f g i j k h K):FCall Tryz.prog f_SAddProduct #[.pointer a,.agg #[.bool b,.slice d e f],.agg #[.bool g,.slice i j k]] h K:=
 fn_sound Tryz.func150 (c:=codeOf Tryz.f150) (by kernel_rfl) (rs:=[]) (by kernel_rfl) (fa:={ loops:=[],cuts:=[],orders:=[(3,((List.range' 0 13),[[],[],[1],[1,2],[1,2,3],[],[5],[],[7],(List.range' 1 8),(List.range' 0 10),(List.range' 0 11),(List.range' 0 12)])),(4,((List.range' 0 13),[[],[],[1],[1,2],[1,2,3],[],[5],[],[7],(List.range' 1 8),(List.range' 0 10),(List.range' 0 11),(List.range' 0 12)]))] })
  (cfg:={ n:=45,own:=[4,5],lim:=none,fns:=[187],wr:=[187] }) (args:=[.pointer a,.agg #[.bool b,.slice d e f],.agg #[.bool g,.slice i j k]]) (by kernel_rfl) (Bodies.cons Tryz.call187 Bodies.nil) (Eq.mp (by kernel_rfl:UAddProduct Tryz.prog a b d e f g i j k h K=_) hvc)
def USubProduct(P:Program)(f:OA)(g:Bool)(i:OA)(j k:Nat)(l:Bool)(m:OA)(n o:Nat)(h:Heap)(K:Value->Heap->Prop):Prop:=
 FCall P f_ZNeg #[.agg #[.bool g,.slice i j k]] h (fun p e=>∃ (a:Bool) (b:OA) (c d:Nat),p= .agg #[.bool a,.slice b c d]/\Heap.le h e/\FCall P f_SAddProduct #[.pointer f,.agg #[.bool a,.slice b c d],.agg #[.bool l,.slice m n o]] e (fun q r=>q= .tuple #[]/\K (.tuple #[]) r))
theorem USubProduct_ok(a:OA)(b:Bool)(d:OA)(e f:Nat)(g:Bool)(i:OA)(j k:Nat)(hvc:USubProduct Tryz.prog a b d e f g i j k h K):FCall Tryz.prog f_SSubProduct #[.pointer a,.agg #[.bool b,.slice d e f],.agg #[.bool g,.slice i j k]] h K:=
 fn_sound Tryz.func160 (c:=codeOf Tryz.f160) (by kernel_rfl) (rs:=[]) (by kernel_rfl) (fa:={ loops:=[],cuts:=[],orders:=[(1,([0,1,3,2,4],[[],[],[1],[],[0,1,2,3]]))] })
  (cfg:={ n:=11,own:=[4,5],lim:=none,fns:=[77,150],wr:=[150] }) (args:=[.pointer a,.agg #[.bool b,.slice d e f],.agg #[.bool g,.slice i j k]]) (by kernel_rfl) (Bodies.cons Tryz.call77 (Bodies.cons Tryz.call150 Bodies.nil)) (Eq.mp (by kernel_rfl:USubProduct Tryz.prog a b d e f g i j k h K=_) hvc)
end Go.Proofs.YthilnfgnpdeofaaGreatDoor
