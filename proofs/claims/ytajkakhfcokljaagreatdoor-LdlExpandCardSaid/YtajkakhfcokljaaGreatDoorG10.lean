/-
  Texts of this proof, merged by a program of ours.
-/
import Derived.Test.YtajkakhfcokljaaGreatDoorProg
import Derived.Test.YtajkakhfcokljaaGreatDoorG05
import Derived.Test.YtajkakhfcokljaaGreatDoorG06
import Derived.Test.YtajkakhfcokljaaGreatDoorG07
import Derived.Test.YtajkakhfcokljaaGreatDoorG08
open Go.Proofs.Tryz
set_option linter.all false
open _root_.Go.Builtin renaming append_->C34
open _root_.Go.Instr renaming buildSlice->C35
namespace Go.Proofs.YtajkakhfcokljaaGreatDoor
open Go
set_option maxRecDepth 100000
variable {h:Heap} {K:VP}
abbrev A7d:Nat:=298
def Bo(P:Program)(E:LP)(o:LN)(d:OA)(b p:Nat)(q:OA)(r s:Nat)(t:Heap):Prop:=
 ∃ (f:LP) (u:LN),f [U 0,I (B5 ((b:Int)-1))] t/\
 ∀ e a c,f [U e,I a] c->Br (decide (a>=(0:Int))) (∃ B,d=some B/\0<=a/\a<(b:Int)/\∃ C,c.cell? (B.add (a.toNat*1))=some (U C)/\FCall P Ej #[U e,U C,U 10000000000000000000] c (fun F G=>∃ (v:Int) (g:Int),F= .tuple #[U v,U g]/\∃ D,d=some D/\0<=a/\a<(b:Int)/\wpH P (Instr.storeAt 130 (.pointer (some (D.add (a.toNat*1)))) (U v)) (fun _ z=>f [U g,I (B5 (a-1))] z/\u [U g,I (B5 (a-1))] z<u [U e,I a] c) G))
 (FCall P H9 #[.slice d b p] c (fun H J=>∃ (i:OA) (j k:Nat),H= .slice i j k/\wpH P (C35 100 1 #[(0,U e)]) (fun L M=>∃ (w:OA) (x y:Nat),L= .slice w x y/\wpH P (C34 #[100,100] 100 #[.slice q r s,.slice w x y]) (fun N A=>∃ (l:OA) (m n:Nat),N= .slice l m n/\E [.slice i j k,.slice l m n] A/\o [.slice i j k,.slice l m n] A<o [.slice d b p,.slice q r s] t) M) J))
def Z8(P:Program)(D:LP)(p:LN)(q:OA)(r s:Nat)(E:Bool)(f:Int)(F:OA)(t G:Nat)(H:Int)(J:Heap)(L:Heap):Prop:=
 ∃ (g:LP) (u:LN),g [.slice q r s,I 0] L/\
 ∀ b c d a e,g [.slice b c d,I a] e->Br (decide (a<(B5 (H-(t:Int))))) (wpH P (C35 199 1 #[(0,Y (48:Int))]) (fun M N=>∃ (v:OA) (w x:Nat),M= .slice v w x/\wpH P (C34 #[199,199] 199 #[.slice b c d,.slice v w x]) (fun O C=>∃ (i:OA) (j k:Nat),O= .slice i j k/\g [.slice i j k,I (B5 (a+1))] C/\u [.slice i j k,I (B5 (a+1))] C<u [.slice b c d,I a] e) N) e)
 (∃ (y:LP),(wpH P (C34 #[199,199] 199 #[.slice b c d,.slice F t G]) (fun Q R=>∃ (z:OA) (A B:Nat),Q= .slice z A B/\y [.slice z A B] R) e)/\
 ∀ l m n o,y [.slice l m n] o->D [.slice l m n,.bool false,I (B5 (f-1))] o/\p [.slice l m n,.bool false,I (B5 (f-1))] o<p [.slice q r s,.bool E,I f] J)
def Z7(P:Program)(p:Int)(K:VP)(q:OA)(r s:Nat)(t:Heap):Prop:=
 ∃ (f:LP) (k:LN),f [.slice q r s,I 0] t/\
 ∀ b c d a e,f [.slice b c d,I a] e->Br (decide (a<p)) (wpH P (C35 199 1 #[(0,Y (48:Int))]) (fun u v=>∃ (l:OA) (m n:Nat),u= .slice l m n/\wpH P (C34 #[199,199] 199 #[.slice b c d,.slice l m n]) (fun w o=>∃ (g:OA) (i j:Nat),w= .slice g i j/\f [.slice g i j,I (B5 (a+1))] o/\k [.slice g i j,I (B5 (a+1))] o<k [.slice b c d,I a] e) v) e)
 (K (.slice b c d) e)
def Z9(P:Program)(t:OA)(u v:Nat)(i:Int)(K:VP)(w:OA)(l:Nat)(x:Addr)(y:Heap):Prop:=
 ∃ (j:LP) (z:LN),j [.slice t u v,.bool true,I (B5 ((l:Int)-1))] y/\
 ∀ d e f g a b,j [.slice d e f,.bool g,I a] b->Br (decide (a>=(0:Int))) ((0<=(0:Int)/\(0:Int)<=(20:Int))/\∃ p,w=some p/\0<=a/\a<(l:Int)/\∃ q,b.cell? (p.add (a.toNat*1))=some (U q)/\FCall P Eh #[.slice (K0 (some x) 20 0 1) ((((0:Int)).toNat)-0) (20-0),U q,I 10] b (fun A o=>∃ (m:OA) (c n:Nat),A= .slice m c n/\∃ (k:LP),(Br g (k [I (if (B5 (i-(B5 ((19:Int)*a))))>(c:Int) then B5 (i-(B5 ((19:Int)*a))) else (c:Int))] o)
 (k [I 19] o))/\
 ∀ r s,k [I r] s->Z8 P j z d e f g a m c n r b s))
 (Br g (Z7 P i K d e f b)
 (K (.slice d e f) b))
def Ha(P:Program)(k:OA)(l m:Nat)(n:Int)(K:VP)(o:OA)(p q:Nat)(r:Heap):Prop:=
 ∃ (a:LP) (s:LN),a [.slice o p q,.slice none 0 0] r/\
 ∀ g b i c d j e,a [.slice g b i,.slice c d j] e->Br (decide ((b:Int)>(0:Int))) (Bo P a s g b i c d j e)
 (wpH P (Instr.alloc 298 true (.tuple #[])) (fun t u=>∃ (f:Addr),t= .pointer (some f)/\Z9 P k l m n K c d f u) e)
def Lz(P:Program)(d:OA)(e f:Nat)(g:OA)(i j:Nat)(k:Int)(h:Heap)(K:VP):Prop:=
 FCall P Ea #[.slice g i j] h (fun l m=>∃ (a:OA) (b c:Nat),l= .slice a b c/\Ha P d e f k K a b c m)
theorem Ps a b c d e f g(hvc:Lz prog a b c d e f g h K):FCall prog S6 #[.slice a b c,.slice d e f,I g] h K:=
 C8 bod func250 [.tmp 6] ⟨[(3,⟨[7,8],[],[.slice none 0 0,.slice none 0 0],⟨([7,8,9,10]++Lrg 18 28),[]⟩⟩),(6,⟨[9,10],[],[.int .u64 0,.int .i64 0],⟨([9,10]++Lrg 24 16),[]⟩⟩),(14,⟨[0,12,13],[],[.slice none 0 0,.bool false,.int .i64 0],⟨([0,12,13,14,15]++Lrg 49 31),[]⟩⟩),(21,⟨[0,71],[],[.slice none 0 0,.int .i64 0],⟨[0,71,72,73,74,75,76],[]⟩⟩),(28,⟨[0,82],[],[.slice none 0 0,.int .i64 0],⟨[0,82,83,84,85,86,87],[]⟩⟩)],[(20,⟨[15],[],[.int .i64 0],⟨([15]++Lrg 59 8),[]⟩⟩),(25,⟨[0],[],[.slice none 0 0],⟨[0,77,78,79],[]⟩⟩)],[],[],[]⟩ 89 [] [200,206,217,225] [225] (by kernel_rfl) hvc
end Go.Proofs.YtajkakhfcokljaaGreatDoor
