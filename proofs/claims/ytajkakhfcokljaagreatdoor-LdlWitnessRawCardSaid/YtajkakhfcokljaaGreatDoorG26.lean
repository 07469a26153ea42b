/-
  Texts of this proof, merged by a program of ours.
-/
import Derived.Test.YtajkakhfcokljaaGreatDoorProg
import Derived.Test.YtajkakhfcokljaaGreatDoorG05
import Derived.Test.YtajkakhfcokljaaGreatDoorG06
namespace Go.Proofs.YtajkakhfcokljaaGreatDoor
open Go
set_option maxRecDepth 100000
set_option linter.unusedVariables false
variable {h:Heap} {K:Value->Heap->Prop}
def Qr(P:Program)(a:OA)(y:Bool)(d:OA)(b e:Nat)(z:Bool)(f:OA)(c g:Nat)(h:Heap)(K:Value->Heap->Prop):Prop:=
 Br ((b:Int)==(0:Int)) (K (.tuple #[]) h)
 (Br ((c:Int)==(0:Int)) (K (.tuple #[]) h)
 (Br (!(y==z)) (∃ u,a=some u/\∃ (i:OA) (j k:Nat),h.cell? (u.add 1)=some (.slice i j k)/\FCall P Z9 #[.slice i j k,.slice d b e,.slice f c g] h (fun A B=>∃ (l:OA) (m n:Nat),A= .slice l m n/\∃ v,a=some v/\wpH P (Instr.storeAt 100 (.pointer (some (v.add 1))) (.slice l m n)) (fun _ C=>K (.tuple #[]) C) B))
 (∃ w,a=some w/\∃ (o:OA) (p q:Nat),h.cell? (w.add 0)=some (.slice o p q)/\FCall P Z9 #[.slice o p q,.slice d b e,.slice f c g] h (fun D E=>∃ (r:OA) (s t:Nat),D= .slice r s t/\∃ x,a=some x/\wpH P (Instr.storeAt 100 (.pointer (some (x.add 0))) (.slice r s t)) (fun _ F=>K (.tuple #[]) F) E))))
theorem Rr(a:OA)(b:Bool)(d:OA)(e f:Nat)(g:Bool)(i:OA)(j k:Nat)(hvc:Qr Tryz.prog a b d e f g i j k h K):FCall Tryz.prog Ab #[.pointer a,.agg #[.bool b,.slice d e f],.agg #[.bool g,.slice i j k]] h K:=
 B7 Tryz.func152 (c:=C2 Tryz.f152) (by kernel_rfl) (rs:=[]) (by kernel_rfl) (fa:=⟨[],[],[(3,((Lrg 0 13),[[],[],[1],[1,2],[1,2,3],[],[5],[],[7],(Lrg 1 8),(Lrg 0 10),(Lrg 0 11),(Lrg 0 12)])),(4,((Lrg 0 13),[[],[],[1],[1,2],[1,2,3],[],[5],[],[7],(Lrg 1 8),(Lrg 0 10),(Lrg 0 11),(Lrg 0 12)]))],[],[]⟩)
  (cfg:=⟨45,[4,5],none,[199],[199],false⟩) (args:=[.pointer a,.agg #[.bool b,.slice d e f],.agg #[.bool g,.slice i j k]]) (by kernel_rfl) (B0 Tryz.call199 Bodies.nil) (Eq.mp (by kernel_rfl) hvc)
def Qq(P:Program)(f:OA)(g:Bool)(i:OA)(j k:Nat)(l:Bool)(m:OA)(n o:Nat)(h:Heap)(K:Value->Heap->Prop):Prop:=
 FCall P Jj #[.agg #[.bool g,.slice i j k]] h (fun p e=>∃ (a:Bool) (b:OA) (c d:Nat),p= .agg #[.bool a,.slice b c d]/\Heap.le h e/\FCall P Ab #[.pointer f,.agg #[.bool a,.slice b c d],.agg #[.bool l,.slice m n o]] e (fun q r=>q= .tuple #[]/\K (.tuple #[]) r))
theorem Rq(a:OA)(b:Bool)(d:OA)(e f:Nat)(g:Bool)(i:OA)(j k:Nat)(hvc:Qq Tryz.prog a b d e f g i j k h K):FCall Tryz.prog Dv #[.pointer a,.agg #[.bool b,.slice d e f],.agg #[.bool g,.slice i j k]] h K:=
 B7 Tryz.func196 (c:=C2 Tryz.f196) (by kernel_rfl) (rs:=[]) (by kernel_rfl) (fa:=⟨[],[],[(1,([0,1,3,2,4],[[],[],[1],[],[0,1,2,3]]))],[],[]⟩)
  (cfg:=⟨11,[4,5],none,[145,152],[152],false⟩) (args:=[.pointer a,.agg #[.bool b,.slice d e f],.agg #[.bool g,.slice i j k]]) (by kernel_rfl) (B0 Tryz.call145 (B0 Tryz.call152 Bodies.nil)) (Eq.mp (by kernel_rfl) hvc)
end Go.Proofs.YtajkakhfcokljaaGreatDoor
