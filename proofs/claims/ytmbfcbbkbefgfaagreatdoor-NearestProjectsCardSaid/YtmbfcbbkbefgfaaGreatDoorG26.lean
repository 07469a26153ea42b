/- A part. -/
import Derived.Test.YtmbfcbbkbefgfaaGreatDoorG07
open Go.Proofs.Tryz
set_option linter.all false
namespace Go.Proofs.YtmbfcbbkbefgfaaGreatDoor
open Go
set_option maxRecDepth 100000
variable {h:Heap} {K:VP}
def Wp(P:Program)(a:OA)(y:Bool)(d:OA)(b e:Nat)(z:Bool)(f:OA)(c g:Nat)(h:Heap)(K:VP):Prop:=
 Br ((b:Int)==0) (K (T0) h)
 (Br ((c:Int)==0) (K (T0) h)
 (Br (!(y==z)) (∃ i,a=some i/\∃ j k l,Hd h (i.add 1) j k l<|FCall P Bv #[Sl j k l,Sl d b e,Sl f c g] h (fun A B=>∃ m n o,A=Sl m n o/\∃ p,a=some p/\wpH P (Instr.storeAt 136 (Pt (p.add 1)) (.slice m n o)) (fun _ C=>K (T0) C) B))
 (∃ q,a=some q/\∃ r s t,Hd h (q.add 0) r s t<|FCall P Bv #[Sl r s t,Sl d b e,Sl f c g] h (fun D E=>∃ u v w,D=Sl u v w/\∃ x,a=some x/\wpH P (Instr.storeAt 136 (Pt (x.add 0)) (.slice u v w)) (fun _ F=>K (T0) F) E))))
def Xr a b c d e f g i j(hvc:Wp prog a b c d e f g i j h K):FCall prog V6 #[.pointer a,Zv b c d e,Zv f g i j] h K:=
 fnk func244 an0 [4,5] [282] hvc
def Wo(P:Program)(f:OA)(g:Bool)(i:OA)(j k:Nat)(l:Bool)(m:OA)(n o:Nat)(h:Heap)(K:VP):Prop:=
 FCall P Il #[Zv g i j k] h (fun p a=>∃ b c d e,p=Zv b c d e/\h.le a/\FCall P V6 #[.pointer f,Zv b c d e,Zv l m n o] a (fun q r=>q=T0/\K (T0) r))
def Xq a b c d e f g i j(hvc:Wo prog a b c d e f g i j h K):FCall prog Gk #[.pointer a,Zv b c d e,Zv f g i j] h K:=
 fnk func245 { orders:=[(1,([0,1,3,2,4],[]))] } [4,5] [244] hvc
