/- A part. -/
import Derived.Test.YtmbfcbbkbefgfaaGreatDoorG18
open Go.Proofs.Tryz
set_option linter.all false
namespace Go.Proofs.YtmbfcbbkbefgfaaGreatDoor
open Go
set_option maxRecDepth 100000
variable {h:Heap} {K:VP}
def Sd(P:Program)(a:OA)(y:Bool)(d:OA)(b e:Nat)(z:Bool)(f:OA)(c g:Nat)(h:Heap)(K:VP):Prop:=
 Br ((b:Int)==0) (K (T0) h)
 (Br ((c:Int)==0) (K (T0) h)
 (Br (!(y==z)) (∃ i,a=some i/\∃ j k l,Hd h (i.add 1) j k l<|FCall P Ad #[Sl j k l,Sl d b e,Sl f c g] h (fun A B=>∃ m n o,A=Sl m n o/\∃ p,a=some p/\wpH P (Instr.storeAt 136 (Pt (p.add 1)) (.slice m n o)) (fun _ C=>K (T0) C) B))
 (∃ q,a=some q/\∃ r s t,Hd h (q.add 0) r s t<|FCall P Ad #[Sl r s t,Sl d b e,Sl f c g] h (fun D E=>∃ u v w,D=Sl u v w/\∃ x,a=some x/\wpH P (Instr.storeAt 136 (Pt (x.add 0)) (.slice u v w)) (fun _ F=>K (T0) F) E))))
def Ti a b c d e f g i j(hvc:Sd prog a b c d e f g i j h K):FCall prog Dz #[.pointer a,Zv b c d e,Zv f g i j] h K:=
 fnk func244 an0 [4,5] [282] hvc
