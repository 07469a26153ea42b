/- A part. -/
import Derived.Test.YtmbfcbbkbefgfaaGreatDoorG24
open Go.Proofs.Tryz
set_option linter.all false
open _root_.Go.Instr renaming buildSlice->aC
open _root_.Go.Proofs.YtmbfcbbkbefgfaaGreatDoor renaming FCall->aD
namespace Go.Proofs.YtmbfcbbkbefgfaaGreatDoor
open Go
set_option maxRecDepth 100000
variable {h:Heap} {K:VP}
abbrev Pi:Nat:=41
def B4a(P:Program)(c d:ByteArray)(f e:ByteArray)(h:Heap)(K:VP):Prop:=
 aD P Q4 #[.agg #[.string c,.string d]] h (fun S z=>∃ (r:Bool),S= .bool r/\Br (!r) (K (.tuple #[.agg #[.string ({ data:=#[] }:ByteArray),.string ({ data:=#[] }:ByteArray)],I 1]) z)
 (aD P Q4 #[.agg #[.string f,.string e]] z (fun T a=>∃ (s:Bool),T= .bool s/\Br (!s) (K (.tuple #[.agg #[.string ({ data:=#[] }:ByteArray),.string ({ data:=#[] }:ByteArray)],I 1]) a)
 ((wpH P (aC 38 1 #[(0,.string f)]) (fun V b=>∃ o p q,V=Sl o p q/\a.le b/\(aD P Cx #[.string c,Sl o p q] b (fun W g=>∃ (t:ByteArray),W= .string t/\b.le g/\wpH P (aC 38 1 #[(0,.string e)]) (fun X i=>∃ D E F,X=Sl D E F/\g.le i/\aD P R7 #[.string d,Sl D E F] i (fun Z A=>∃ (u:ByteArray),Z= .string u/\i.le A/\K (.tuple #[.agg #[.string t,.string u],I 0]) A)) g))/\(wpH P (aC 38 1 #[(0,.string e)]) (fun a0 j=>∃ G H J,a0=Sl G H J/\b.le j/\aD P Cx #[.string c,Sl o p q] j (fun a1 k=>∃ (v:ByteArray),a1= .string v/\j.le k/\aD P R7 #[.string d,Sl G H J] k (fun a2 B=>∃ (w:ByteArray),a2= .string w/\k.le B/\K (.tuple #[.agg #[.string v,.string w],I 0]) B))) b)) a)/\(wpH P (aC 38 1 #[(0,.string e)]) (fun a3 l=>∃ L M N,a3=Sl L M N/\a.le l/\wpH P (aC 38 1 #[(0,.string f)]) (fun a4 m=>∃ O Q R,a4=Sl O Q R/\l.le m/\aD P Cx #[.string c,Sl O Q R] m (fun a5 n=>∃ (x:ByteArray),a5= .string x/\m.le n/\aD P R7 #[.string d,Sl L M N] n (fun a6 C=>∃ (y:ByteArray),a6= .string y/\n.le C/\K (.tuple #[.agg #[.string x,.string y],I 0]) C))) l) a)))))
def B0b a b c d(hvc:B4a prog a b c d h K):aD prog Pi #[.agg #[.string a,.string b],.agg #[.string c,.string d]] h K:=
 fnk func41 ⟨[],[],[(3,([0,1,2,3,6,7,8,9,4,5,10,11,12,13,14],[]))],[],[(3,[(4,[10]),(5,[10])])]⟩ [2,3,4] [] hvc
