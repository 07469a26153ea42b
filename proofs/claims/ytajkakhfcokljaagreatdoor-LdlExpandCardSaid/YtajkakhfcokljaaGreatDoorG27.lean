/-
  Texts of this proof, merged by a program of ours.
-/
import Derived.Test.YtajkakhfcokljaaGreatDoorProg
import Derived.Test.YtajkakhfcokljaaGreatDoorG05
import Derived.Test.YtajkakhfcokljaaGreatDoorG06
import Derived.Test.YtajkakhfcokljaaGreatDoorG07
open Go.Proofs.Tryz
set_option linter.all false
namespace Go.Proofs.YtajkakhfcokljaaGreatDoor
open Go
set_option maxRecDepth 100000
variable {h:Heap} {K:VP}
def Tf(P:Program)(a:OA)(y:Bool)(d:OA)(b e:Nat)(z:Bool)(f:OA)(c g:Nat)(h:Heap)(K:VP):Prop:=
 Br ((b:Int)==(0:Int)) (K (.tuple #[]) h)
 (Br ((c:Int)==(0:Int)) (K (.tuple #[]) h)
 (Br (!(y==z)) (∃ u,a=some u/\∃ (i:OA) (j k:Nat),h.cell? (u.add 1)=some (.slice i j k)/\FCall P Am #[.slice i j k,.slice d b e,.slice f c g] h (fun A B=>∃ (l:OA) (m n:Nat),A= .slice l m n/\∃ v,a=some v/\wpH P (Instr.storeAt 100 (.pointer (some (v.add 1))) (.slice l m n)) (fun _ C=>K (.tuple #[]) C) B))
 (∃ w,a=some w/\∃ (o:OA) (p q:Nat),h.cell? (w.add 0)=some (.slice o p q)/\FCall P Am #[.slice o p q,.slice d b e,.slice f c g] h (fun D E=>∃ (r:OA) (s t:Nat),D= .slice r s t/\∃ x,a=some x/\wpH P (Instr.storeAt 100 (.pointer (some (x.add 0))) (.slice r s t)) (fun _ F=>K (.tuple #[]) F) E))))
theorem Uj a b c d e f g i j(hvc:Tf prog a b c d e f g i j h K):FCall prog S7 #[.pointer a,.agg #[.bool b,.slice c d e],.agg #[.bool f,.slice g i j]] h K:=
 C8 bod func152 [] an0 45 [4,5] [199] [199] (by kernel_rfl) hvc
def Te(P:Program)(f:OA)(g:Bool)(i:OA)(j k:Nat)(l:Bool)(m:OA)(n o:Nat)(h:Heap)(K:VP):Prop:=
 FCall P Kr #[.agg #[.bool g,.slice i j k]] h (fun p e=>∃ (a:Bool) (b:OA) (c d:Nat),p= .agg #[.bool a,.slice b c d]/\Heap.le h e/\FCall P S7 #[.pointer f,.agg #[.bool a,.slice b c d],.agg #[.bool l,.slice m n o]] e (fun q r=>q= .tuple #[]/\K (.tuple #[]) r))
theorem Ui a b c d e f g i j(hvc:Te prog a b c d e f g i j h K):FCall prog Eb #[.pointer a,.agg #[.bool b,.slice c d e],.agg #[.bool f,.slice g i j]] h K:=
 C8 bod func196 [] { orders:=[(1,([0,1,3,2,4],[]))] } 11 [4,5] [145,152] [152] (by kernel_rfl) hvc
end Go.Proofs.YtajkakhfcokljaaGreatDoor
