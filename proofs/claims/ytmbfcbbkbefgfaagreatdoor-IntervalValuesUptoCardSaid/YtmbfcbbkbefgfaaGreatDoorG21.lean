/- A part. -/
import Derived.Test.YtmbfcbbkbefgfaaGreatDoorG19
open Go.Proofs.Tryz
set_option linter.all false
open _root_.Go.Builtin renaming append_->aC
open _root_.Go.Instr renaming buildSlice->aD
open _root_.Go renaming Program->aE
namespace Go.Proofs.YtmbfcbbkbefgfaaGreatDoor
open Go
set_option maxRecDepth 100000
variable {h:Heap} {K:VP}
abbrev A6k:Nat:=360
def Bb(P:aE)(E:LP)(o:LN)(d:OA)(b p:Nat)(q:OA)(r s:Nat)(t:Heap):Prop:=
 ∃ (f:LP) (u:LN),f [U 0,I (B4 ((b:Int)-1))] t/\
 ∀ e a c,f [U e,I a] c->Bd (a>=0) (∃ y,Ax d y a b <| ∃ z,c.cell? (y.add (a.toNat*1))=some (U z)/\FCall P Ee #[U e,U z,U 10000000000000000000] c (fun F G=>∃ (v:Int) (g:Int),F= .tuple #[U v,U g]/\∃ A,Ax d A a b<|wpH P (Instr.storeAt 270 (Pt (A.add (a.toNat*1))) (U v)) (fun _ w=>f [U g,I (B4 (a-1))] w/\u [U g,I (B4 (a-1))] w<u [U e,I a] c) G))
 (FCall P F8 #[Sl d b p] c (fun H J=>∃ i j k,H=Sl i j k/\wpH P (aD 136 1 #[(0,U e)]) (fun L M=>∃ B C D,L=Sl B C D/\wpH P (aC #[136,136] 136 #[Sl q r s,Sl B C D]) (fun N x=>∃ l m n,N=Sl l m n/\E [.slice i j k,.slice l m n] x/\o [.slice i j k,.slice l m n] x<o [.slice d b p,.slice q r s] t) M) J))
def Y7(P:aE)(D:LP)(p:LN)(q:OA)(r s:Nat)(E:Bool)(f:Int)(F:OA)(t G:Nat)(H:Int)(J:Heap)(L:Heap):Prop:=
 ∃ (g:LP) (u:LN),g [.slice q r s,I 0] L/\
 ∀ b c d a e,g [.slice b c d,I a] e->Bd (a<(B4 (H-(t:Int)))) (wpH P (aD 248 1 #[(0,Y (48:Int))]) (fun M N=>∃ x y z,M=Sl x y z/\wpH P (aC #[248,248] 248 #[Sl b c d,Sl x y z]) (fun O w=>∃ i j k,O=Sl i j k/\g [.slice i j k,I (B4 (a+1))] w/\u [.slice i j k,I (B4 (a+1))] w<u [.slice b c d,I a] e) N) e)
 (∃ (v:LP),(wpH P (aC #[248,248] 248 #[Sl b c d,Sl F t G]) (fun Q R=>∃ A B C,Q=Sl A B C/\v [.slice A B C] R) e)/\
 ∀ l m n o,v [.slice l m n] o->D [.slice l m n,.bool false,I (B4 (f-1))] o/\p [.slice l m n,.bool false,I (B4 (f-1))] o<p [.slice q r s,.bool E,I f] J)
def Y6(P:aE)(p:Int)(K:VP)(q:OA)(r s:Nat)(t:Heap):Prop:=
 ∃ (f:LP) (k:LN),f [.slice q r s,I 0] t/\
 ∀ b c d a e,f [.slice b c d,I a] e->Bd (a<p) (wpH P (aD 248 1 #[(0,Y (48:Int))]) (fun u v=>∃ m n o,u=Sl m n o/\wpH P (aC #[248,248] 248 #[Sl b c d,Sl m n o]) (fun w l=>∃ g i j,w=Sl g i j/\f [.slice g i j,I (B4 (a+1))] l/\k [.slice g i j,I (B4 (a+1))] l<k [.slice b c d,I a] e) v) e)
 (K (Sl b c d) e)
def Y8(P:aE)(t:OA)(u v:Nat)(i:Int)(K:VP)(w:OA)(l:Nat)(x:Addr)(y:Heap):Prop:=
 ∃ (j:LP) (z:LN),j [.slice t u v,.bool true,I (B4 ((l:Int)-1))] y/\
 ∀ d e f g a b,j [.slice d e f,.bool g,I a] b->Bd (a>=0) ((0<=(0:Int)/\(0:Int)<=(20:Int))/\∃ n,Ax w n a l <| ∃ o,b.cell? (n.add (a.toNat*1))=some (U o)/\FCall P Ec #[.slice (J6 (some x) 20 0 1) ((((0:Int)).toNat)-0) (20-0),U o,I 10] b (fun A m=>∃ p c q,A=Sl p c q/\∃ (k:LP),(Br g (k [I (if (B4 (i-(B4 ((19:Int)*a))))>(c:Int) then B4 (i-(B4 ((19:Int)*a))) else (c:Int))] m)
 (k [I 19] m))/\
 ∀ r s,k [I r] s->Y7 P j z d e f g a p c q r b s))
 (Br g (Y6 P i K d e f b)
 (K (Sl d e f) b))
def Gg(P:aE)(k:OA)(l m:Nat)(n:Int)(K:VP)(o:OA)(p q:Nat)(r:Heap):Prop:=
 ∃ (a:LP) (s:LN),a [.slice o p q,N0] r/\
 ∀ g b i c d j e,a [.slice g b i,.slice c d j] e->Bd ((b:Int)>0) (Bb P a s g b i c d j e)
 (wpH P (Instr.alloc 360 true (T0)) (fun t u=>∃ (f:Addr),t=Pt f/\Y8 P k l m n K c d f u) e)
def Lc(P:aE)(d:OA)(e f:Nat)(g:OA)(i j:Nat)(k:Int)(h:Heap)(K:VP):Prop:=
 FCall P Dx #[Sl g i j] h (fun l m=>∃ a b c,l=Sl a b c/\Gg P d e f k K a b c m)
def Ow a b c d e f g(hvc:Lc prog a b c d e f g h K):FCall prog T1 #[Sl a b c,Sl d e f,I g] h K:=
 fnk func311 ⟨[(3,⟨[7,8],[],[N0,N0],⟨([7,8,9,10]++Lrg 18 28),[]⟩⟩),(6,⟨[9,10],[],[U 0,I 0],⟨([9,10]++Lrg 24 16),[]⟩⟩),(14,⟨[0,12,13],[],[N0,.bool false,I 0],⟨([0,12,13,14,15]++Lrg 49 31),[]⟩⟩),(21,⟨[0,71],[],[N0,I 0],⟨[0,71,72,73,74,75,76],[]⟩⟩),(28,⟨[0,82],[],[N0,I 0],⟨[0,82,83,84,85,86,87],[]⟩⟩)],[(20,⟨[15],[],[I 0],⟨([15]++Lrg 59 8),[]⟩⟩),(25,⟨[0],[],[N0],⟨[0,77,78,79],[]⟩⟩)],[],[],[]⟩ [] [286] hvc
