/-
  Texts of this proof, merged by a program of ours.
-/
import Derived.Test.YtajkakhfcokljaaGreatDoorProg
import Derived.Test.YtajkakhfcokljaaGreatDoorG05
import Derived.Test.YtajkakhfcokljaaGreatDoorG06
import Derived.Test.YtajkakhfcokljaaGreatDoorG07
namespace Go.Proofs.YtajkakhfcokljaaGreatDoor
open Go
set_option maxRecDepth 100000
set_option linter.unusedVariables false
variable {h:Heap} {K:Value->Heap->Prop}
abbrev A4w:Nat:=298
def Bb(P:Program)(E:List Value->Heap->Prop)(o:List Value->Heap->Nat)(d:OA)(b p:Nat)(q:OA)(r s:Nat)(t:Heap):Prop:=
 ∃ (f:List Value->Heap->Prop) (u:List Value->Heap->Nat),f [U 0,I (B4 ((b:Int)-1))] t/\
 ∀ (e:Int) (a:Int),∀ c,f [U e,I a] c->Br (decide (a>=(0:Int))) (∃ C,d=some C/\0<=a/\a<(b:Int)/\∃ (v:Int),c.cell? (C.add (a.toNat*1))=some (U v)/\FCall P Ea #[U e,U v,U 10000000000000000000] c (fun F G=>∃ (w:Int) (g:Int),F= .tuple #[U w,U g]/\∃ D,d=some D/\0<=a/\a<(b:Int)/\wpH P (Instr.storeAt 130 (.pointer (some (D.add (a.toNat*1)))) (U w)) (fun _ A=>f [U g,I (B4 (a-1))] A/\u [U g,I (B4 (a-1))] A<u [U e,I a] c) G))
 (FCall P I0 #[.slice d b p] c (fun H J=>∃ (i:OA) (j k:Nat),H= .slice i j k/\wpH P (Instr.buildSlice 100 1 #[(0,U e)]) (fun L M=>∃ (x:OA) (y z:Nat),L= .slice x y z/\wpH P (Builtin.append_ #[100,100] 100 #[.slice q r s,.slice x y z]) (fun N B=>∃ (l:OA) (m n:Nat),N= .slice l m n/\E [.slice i j k,.slice l m n] B/\o [.slice i j k,.slice l m n] B<o [.slice d b p,.slice q r s] t) M) J))
def W9(P:Program)(D:List Value->Heap->Prop)(p:List Value->Heap->Nat)(q:OA)(r s:Nat)(E:Bool)(f:Int)(F:OA)(t G:Nat)(H:Int)(J:Heap)(L:Heap):Prop:=
 ∃ (g:List Value->Heap->Prop) (u:List Value->Heap->Nat),g [.slice q r s,I 0] L/\
 ∀ (b:OA) (c d:Nat) (a:Int),∀ e,g [.slice b c d,I a] e->Br (decide (a<(B4 (H-(t:Int))))) (wpH P (Instr.buildSlice 199 1 #[(0,Y (48:Int))]) (fun M N=>∃ (v:OA) (w x:Nat),M= .slice v w x/\wpH P (Builtin.append_ #[199,199] 199 #[.slice b c d,.slice v w x]) (fun O C=>∃ (i:OA) (j k:Nat),O= .slice i j k/\g [.slice i j k,I (B4 (a+1))] C/\u [.slice i j k,I (B4 (a+1))] C<u [.slice b c d,I a] e) N) e)
 (∃ (y:List Value->Heap->Prop),(wpH P (Builtin.append_ #[199,199] 199 #[.slice b c d,.slice F t G]) (fun Q R=>∃ (z:OA) (A B:Nat),Q= .slice z A B/\y [.slice z A B] R) e)/\
 ∀ (l:OA) (m n:Nat),∀ o,y [.slice l m n] o->D [.slice l m n,.bool false,I (B4 (f-1))] o/\p [.slice l m n,.bool false,I (B4 (f-1))] o<p [.slice q r s,.bool E,I f] J)
def W8(P:Program)(p:Int)(K:Value->Heap->Prop)(q:OA)(r s:Nat)(t:Heap):Prop:=
 ∃ (f:List Value->Heap->Prop) (k:List Value->Heap->Nat),f [.slice q r s,I 0] t/\
 ∀ (b:OA) (c d:Nat) (a:Int),∀ e,f [.slice b c d,I a] e->Br (decide (a<p)) (wpH P (Instr.buildSlice 199 1 #[(0,Y (48:Int))]) (fun u v=>∃ (l:OA) (m n:Nat),u= .slice l m n/\wpH P (Builtin.append_ #[199,199] 199 #[.slice b c d,.slice l m n]) (fun w o=>∃ (g:OA) (i j:Nat),w= .slice g i j/\f [.slice g i j,I (B4 (a+1))] o/\k [.slice g i j,I (B4 (a+1))] o<k [.slice b c d,I a] e) v) e)
 (K (.slice b c d) e)
def X9(P:Program)(t:OA)(u v:Nat)(i:Int)(K:Value->Heap->Prop)(w:OA)(l:Nat)(x:Addr)(y:Heap):Prop:=
 ∃ (j:List Value->Heap->Prop) (z:List Value->Heap->Nat),j [.slice t u v,.bool true,I (B4 ((l:Int)-1))] y/\
 ∀ (c:OA) (d e:Nat) (f:Bool) (a:Int),∀ b,j [.slice c d e,.bool f,I a] b->Br (decide (a>=(0:Int))) ((0<=(0:Int)/\(0:Int)<=(20:Int))/\∃ r,w=some r/\0<=a/\a<(l:Int)/\∃ (m:Int),b.cell? (r.add (a.toNat*1))=some (U m)/\FCall P Dy #[.slice (J6 (some x) 20 0 1) ((((0:Int)).toNat)-0) (20-0),U m,I 10] b (fun A q=>∃ (n:OA) (g o:Nat),A= .slice n g o/\∃ (k:List Value->Heap->Prop),(Br f (k [I (if (B4 (i-(B4 ((19:Int)*a))))>(g:Int) then B4 (i-(B4 ((19:Int)*a))) else (g:Int))] q)
 (k [I 19] q))/\
 ∀ (p:Int),∀ s,k [I p] s->W9 P j z c d e f a n g o p b s))
 (Br f (W8 P i K c d e b)
 (K (.slice c d e) b))
def Gf(P:Program)(k:OA)(l m:Nat)(n:Int)(K:Value->Heap->Prop)(o:OA)(p q:Nat)(r:Heap):Prop:=
 ∃ (a:List Value->Heap->Prop) (s:List Value->Heap->Nat),a [.slice o p q,.slice none 0 0] r/\
 ∀ (f:OA) (b g:Nat) (c:OA) (d i:Nat),∀ e,a [.slice f b g,.slice c d i] e->Br (decide ((b:Int)>(0:Int))) (Bb P a s f b g c d i e)
 (wpH P (Instr.alloc 298 true (.tuple #[])) (fun t u=>∃ (j:Addr),t= .pointer (some j)/\X9 P k l m n K c d j u) e)
def Kh(P:Program)(d:OA)(e f:Nat)(g:OA)(i j:Nat)(k:Int)(h:Heap)(K:Value->Heap->Prop):Prop:=
 FCall P Du #[.slice g i j] h (fun l m=>∃ (a:OA) (b c:Nat),l= .slice a b c/\Gf P d e f k K a b c m)
theorem Nr(a:OA)(b d:Nat)(e:OA)(f g:Nat)(i:Int)(hvc:Kh Tryz.prog a b d e f g i h K):FCall Tryz.prog S2 #[.slice a b d,.slice e f g,I i] h K:=
 B7 Tryz.func250 (c:=C2 Tryz.f250) (by kernel_rfl) (rs:=[.tmp 6]) (by kernel_rfl) (fa:=⟨[(3,⟨[7,8],[],[.slice none 0 0,.slice none 0 0],⟨([7,8,9,10]++Lrg 18 28),[]⟩⟩),(6,⟨[9,10],[],[.int .u64 0,.int .i64 0],⟨([9,10]++Lrg 24 16),[]⟩⟩),(14,⟨[0,12,13],[],[.slice none 0 0,.bool false,.int .i64 0],⟨([0,12,13,14,15]++Lrg 49 31),[]⟩⟩),(21,⟨[0,71],[],[.slice none 0 0,.int .i64 0],⟨[0,71,72,73,74,75,76],[]⟩⟩),(28,⟨[0,82],[],[.slice none 0 0,.int .i64 0],⟨[0,82,83,84,85,86,87],[]⟩⟩)],[(20,⟨[15],[],[.int .i64 0],⟨([15]++Lrg 59 8),[]⟩⟩),(25,⟨[0],[],[.slice none 0 0],⟨[0,77,78,79],[]⟩⟩)],[(16,([0,1,2,3,4,5,6],[[],[],[],[1,2],[1,2,3],[0,1,2,3,4],[0,1,2,3,4,5]]))],[],[]⟩)
  (cfg:=⟨89,[],none,[200,206,217,225],[225],false⟩) (args:=[.slice a b d,.slice e f g,I i]) (by kernel_rfl) (B0 Tryz.call200 (B0 Tryz.call206 (B0 Tryz.call217 (B0 Tryz.call225 Bodies.nil)))) (Eq.mp (by kernel_rfl) hvc)
end Go.Proofs.YtajkakhfcokljaaGreatDoor
