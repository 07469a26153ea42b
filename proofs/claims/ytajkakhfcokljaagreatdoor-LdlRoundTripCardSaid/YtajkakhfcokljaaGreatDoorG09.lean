/-
  Texts of this proof, merged by a program of ours.
-/
import Derived.Test.YtajkakhfcokljaaGreatDoorProg
import Derived.Test.YtajkakhfcokljaaGreatDoorG05
import Derived.Test.YtajkakhfcokljaaGreatDoorG06
import Derived.Test.YtajkakhfcokljaaGreatDoorG07
import Derived.Test.YtajkakhfcokljaaGreatDoorG08
open Go.Proofs.Tryz
open _root_.ByteArray renaming toList->C5q,size->C5r
namespace Go.Proofs.YtajkakhfcokljaaGreatDoor
set_option linter.all false
open Go
set_option maxRecDepth 100000
variable {h:Heap} {K:VP}
abbrev Mz:Nat:=113
abbrev Af:Nat:=178
abbrev Hp:Nat:=112
abbrev C0i:Nat:=78
abbrev Z7:Nat:=176
abbrev B18:Nat:=155
abbrev B3z:Nat:=79
abbrev Bo:Nat:=166
abbrev T0:Nat:=132
abbrev U7:Nat:=159
abbrev Na:Nat:=158
abbrev A4o:Nat:=83
abbrev C2y:Nat:=80
abbrev Rl:Nat:=46
abbrev Xa:Nat:=148
abbrev C4k:Nat:=27
abbrev Tq:Nat:=58
abbrev Xb:Nat:=86
abbrev Qg:Nat:=84
abbrev Tr:Nat:=73
abbrev Zp:Nat:=121
abbrev Eh:Nat:=106
abbrev Zq:Nat:=105
abbrev B1a:Nat:=71
abbrev A6c:Nat:=130
abbrev B19:Nat:=167
abbrev Xc:Nat:=81
abbrev Pa:Nat:=146
abbrev Ts:Nat:=72
abbrev C4f:Nat:=207
def B7k(P:Program)(p:ByteArray)(h:Heap)(K:VP):Prop:=
 FCall P Ia #[.string p,.string ({ data:=#[45] }:ByteArray)] h (fun q r=>∃ (j:ByteArray) (b:Bool),q= .tuple #[.string j,.bool b]/\FCall P Af #[.string j] r (fun s f=>∃ (a d:ByteArray),s= .tuple #[.string a,.string d]/\Br (C5q a==C5q ({ data:=#[48] }:ByteArray)) (Br (!b) (K (.tuple #[.agg #[.bool b,.string a,.string ({ data:=#[] }:ByteArray)],.bool (C5q d==C5q ({ data:=#[] }:ByteArray))]) f)
 (K (.tuple #[.agg #[.bool b,.string a,.string ({ data:=#[] }:ByteArray)],.bool false]) f))
 (∃ (i:LP),(Br (C5q a==C5q ({ data:=#[] }:ByteArray)) (i [.bool true] f)
 (∃ (k:UInt8),(0<=(0:Int)/\(a)[((0:Int)).toNat]? = some k)/\i [.bool (((k.toNat:Nat):Int)==(48:Int))] f))/\
 ∀ o e,i [.bool o] e->Br o (K (.tuple #[.agg #[.bool b,.string a,.string ({ data:=#[] }:ByteArray)],.bool false]) e)
 (Br (C5q d==C5q ({ data:=#[] }:ByteArray)) (K (.tuple #[.agg #[.bool b,.string a,.string ({ data:=#[] }:ByteArray)],.bool true]) e)
 (∃ (l:UInt8),(0<=(0:Int)/\(d)[((0:Int)).toNat]? = some l)/\Br (((l.toNat:Nat):Int) != (47:Int)) (K (.tuple #[.agg #[.bool b,.string a,.string ({ data:=#[] }:ByteArray)],.bool false]) e)
 ((0<=(1:Int)/\(1:Int)<=(((d).size:Nat):Int))/\FCall P Af #[.string ((d).extract (((1:Int)).toNat) ((d).size))] e (fun t g=>∃ (c m:ByteArray),t= .tuple #[.string c,.string m]/\Br (C5q m==C5q ({ data:=#[] }:ByteArray)) (Br (!(C5q c==C5q ({ data:=#[] }:ByteArray))) (∃ (n:UInt8),(0<=(0:Int)/\(c)[((0:Int)).toNat]? = some n)/\Br (((n.toNat:Nat):Int) != (48:Int)) (K (.tuple #[.agg #[.bool b,.string a,.string c],.bool (!(C5q c==C5q ({ data:=#[49] }:ByteArray)))]) g)
 (K (.tuple #[.agg #[.bool b,.string a,.string c],.bool false]) g))
 (K (.tuple #[.agg #[.bool b,.string a,.string c],.bool false]) g))
 (K (.tuple #[.agg #[.bool b,.string a,.string c],.bool false]) g))))))))
theorem B2o a(hvc:B7k prog a h K):FCall prog Mz #[.string a] h K:=
 C7 bod func113 [.cell 2 164,.tmp 3] { cuts:=[(8,⟨[31],[],[.bool false],⟨(Lrg 31 10),[]⟩⟩)] } 77 [2,4] [177,178] [] (by kernel_rfl) hvc
def Xp(P:Program)(b:ByteArray)(h:Heap)(K:VP):Prop:=
 ∃ (e:LP),(∃ (f:LP) (g:LN),f [I 0] h/\
 ∀ a c,f [I a] c->Br (decide (a<((C5r b:Nat):Int))) (∃ (i:UInt8),(0<=a/\(b)[a.toNat]? = some i)/\Br (decide ((48:Int)<=((i.toNat:Nat):Int))) (∃ (j:UInt8),(0<=a/\(b)[a.toNat]? = some j)/\Br (decide (((j.toNat:Nat):Int)<=(57:Int))) (f [I (B5 (a+1))] c/\g [I (B5 (a+1))] c<g [I a] c)
 (e [I a] c))
 (e [I a] c))
 (e [I a] c))/\
 ∀ d k,e [I d] k->(0<=d/\d<=(((b).size:Nat):Int))/\(0<=d/\d<=(((b).size:Nat):Int))/\K (.tuple #[.string ((b).extract 0 (d.toNat)),.string ((b).extract (d.toNat) ((b).size))]) k
theorem A0m a(hvc:Xp prog a h K):FCall prog Af #[.string a] h K:=
 C7 bod func178 [.tmp 2,.tmp 3] ⟨[(2,⟨[4],[],[.int .i64 0],⟨(Lrg 4 19),[]⟩⟩)],[(4,⟨[4],[],[.int .i64 0],⟨(Lrg 4 19),[]⟩⟩)],[],[],[]⟩ 29 [] [] [] (by kernel_rfl) hvc
def Xo(P:Program)(n:ByteArray)(h:Heap)(K:VP):Prop:=
 Br (decide (((C5r n:Nat):Int)>(20:Int))) (K (.tuple #[.agg #[I 0,I 0],.bool false]) h)
 (FCall P Mz #[.string n] h (fun x g=>∃ (o:Bool) (d a:ByteArray) (p:Bool),x= .tuple #[.agg #[.bool o,.string d,.string a],.bool p]/\∃ (b:LP),(Br (!p) (b [.bool true] g)
 (Br (decide (((C5r d:Nat):Int)>(9:Int))) (b [.bool true] g)
 (b [.bool (decide (((C5r a:Nat):Int)>(9:Int)))] g)))/\
 ∀ s i,b [.bool s] i->Br s (K (.tuple #[.agg #[I 0,I 0],.bool false]) i)
 (FCall P Z7 #[.string d] i (fun y q=>∃ c,y=I c/\∃ (e:LP),(Br (!(C5q a==C5q ({ data:=#[] }:ByteArray))) (FCall P Z7 #[.string a] q (fun z A=>∃ j,z=I j/\FCall P B18 #[I c,I j] A (fun B r=>∃ t,B=I t/\Br (t != (1:Int)) (K (.tuple #[.agg #[I 0,I 0],.bool false]) r)
 (e [I 0,I 0,I c,I j] r))))
 (e [I 0,I 0,I c,I 1] q))/\
 ∀ C D k l m,e [I C,I D,I k,I l] m->∃ (f:LP),(Br o (f [I (B5 (0-k)),I l] m)
 (f [I k,I l] m))/\
 ∀ u v w,f [I u,I v] w->K (.tuple #[.agg #[I u,I v],.bool true]) w))))
theorem A0l a(hvc:Xo prog a h K):FCall prog Hp #[.string a] h K:=
 C7 bod func112 [.cell 2 122,.tmp 3] { cuts:=[(5,⟨[29],[],[.bool false],⟨(Lrg 16 14),[]⟩⟩),(11,⟨[],[(2,2),(6,2)],[.int .i64 0,.int .i64 0,.int .i64 0,.int .i64 0],⟨([3]++Lrg 35 14),[2,6]⟩⟩),(13,⟨[],[(6,2)],[.int .i64 0,.int .i64 0],⟨[49,50,51,52,53,54],[6]⟩⟩)] } 56 [2,4,6] [113,155,176] [] (by kernel_rfl) hvc
def Qt(P:Program)(f:ByteArray)(h:Heap)(K:VP):Prop:=
 ∃ (d:LP) (g:LN),d [I 0,I 0] h/\
 ∀ b a c,d [I b,I a] c->Br (decide (a<((C5r f:Nat):Int))) (∃ (e:UInt8),(0<=a/\(f)[a.toNat]? = some e)/\d [I (B5 ((B5 ((10:Int)*b))+(B5 (wu8 (((e.toNat:Nat):Int)-48))))),I (B5 (a+1))] c/\g [I (B5 ((B5 ((10:Int)*b))+(B5 (wu8 (((e.toNat:Nat):Int)-48))))),I (B5 (a+1))] c<g [I b,I a] c)
 (K (I b) c)
theorem Vc a(hvc:Qt prog a h K):FCall prog Z7 #[.string a] h K:=
 C7 bod func176 [.tmp 2] { loops:=[(3,⟨[3,7],[],[.int .i64 0,.int .i64 0],⟨([3,4]++Lrg 7 12),[]⟩⟩)] } 20 [] [] [] (by kernel_rfl) hvc
def C4z(P:Program)(f:Int)(g:Int)(h:Heap)(K:VP):Prop:=
 ∃ (d:LP) (e:LN),d [I f,I g] h/\
 ∀ b a c,d [I b,I a] c->Br (a != (0:Int)) (Br (decide (a=0)) False
 (d [I a,I (Int.tmod b a)] c/\e [I a,I (Int.tmod b a)] c<e [I b,I a] c))
 (K (I b) c)
theorem B9y a b(hvc:C4z prog a b h K):FCall prog B18 #[I a,I b] h K:=
 C7 bod func155 [.tmp 4] { loops:=[(1,⟨[0,1],[],[.int .i64 0,.int .i64 0],⟨[0,1,5,6,7,8,9,10],[]⟩⟩)] } 12 [] [] [] (by kernel_rfl) hvc
def B7l(P:Program)(e:Int)(h:Heap)(K:VP):Prop:=
 FCall P Tp #[I e] h (fun f g=>∃ (a:Bool) (b:OA) (c d:Nat),f= .agg #[.bool a,.slice b c d]/\K (.agg #[.bool a,.slice b c d,.bool false,.slice none 0 0]) g)
theorem B2p a(hvc:B7l prog a h K):FCall prog Bo #[I a] h K:=
 C7 bod func166 [.cell 2 106] an0 6 [2] [139] [] (by kernel_rfl) hvc
def A33(P:Program)(r:Bool)(s:OA)(t u:Nat)(j:Bool)(k:OA)(l m:Nat)(h:Heap)(K:VP):Prop:=
 ∃ (v:LP),(FCall P E9 #[.agg #[.bool j,.slice k l m]] h (fun c4 b7=>∃ (C:Bool),c4= .bool C/\Br C (v [.bool true] b7)
 (FCall P E9 #[.agg #[.bool r,.slice s t u]] b7 (fun c5 c6=>∃ (D:Bool),c5= .bool D/\v [.bool D] c6))))/\
 ∀ c1 B,v [.bool c1] B->Br c1 (K (.agg #[.bool false,.slice none 0 0,.bool false,.slice none 0 0]) B)
 (∃ (w:LP),(FCall P Tm #[.agg #[.bool j,.slice k l m]] B (fun c7 x=>∃ c2,c7=I c2/\Br (decide (c2<(0:Int))) (FCall P My #[.agg #[.bool r,.slice s t u]] x (fun c8 y=>∃ (E:Bool) (F:OA) (G H:Nat),c8= .agg #[.bool E,.slice F G H]/\Heap.le x y/\FCall P My #[.agg #[.bool j,.slice k l m]] y (fun c9 b8=>∃ (J:Bool) (L:OA) (M N:Nat),c9= .agg #[.bool J,.slice L M N]/\Heap.le y b8/\w [.bool E,.slice F G H,.bool J,.slice L M N] b8)))
 (w [.bool r,.slice s t u,.bool j,.slice k l m] x)))/\
 ∀ a b c d e f g i c3,w [.bool a,.slice b c d,.bool e,.slice f g i] c3->FCall P U1 #[.agg #[.bool e,.slice f g i]] c3 (fun d0 b9=>∃ (O:Bool),d0= .bool O/\Br O (K (.agg #[.bool a,.slice b c d,.bool false,.slice none 0 0]) b9)
 (FCall P Ju #[.agg #[.bool a,.slice b c d],.agg #[.bool e,.slice f g i]] b9 (fun d1 d2=>∃ (n:Bool) (o:OA) (p q:Nat),d1= .agg #[.bool n,.slice o p q]/\FCall P U1 #[.agg #[.bool n,.slice o p q]] d2 (fun d3 z=>∃ (Q:Bool),d3= .bool Q/\Br (!Q) (FCall P Eg #[.agg #[.bool a,.slice b c d],.agg #[.bool n,.slice o p q]] z (fun d4 A=>∃ (R:Bool) (S:OA) (T V:Nat),d4= .agg #[.bool R,.slice S T V]/\Heap.le z A/\FCall P Eg #[.agg #[.bool e,.slice f g i],.agg #[.bool n,.slice o p q]] A (fun d5 c0=>∃ (W:Bool) (X:OA) (Z a0:Nat),d5= .agg #[.bool W,.slice X Z a0]/\Heap.le A c0/\FCall P U7 #[.agg #[.bool R,.slice S T V],.agg #[.bool W,.slice X Z a0]] c0 (fun d6 d7=>∃ (a1:Bool) (a2:OA) (a3 a4:Nat) (a5:Bool) (a6:OA) (a7 a8:Nat),d6= .agg #[.bool a1,.slice a2 a3 a4,.bool a5,.slice a6 a7 a8]/\K (.agg #[.bool a1,.slice a2 a3 a4,.bool a5,.slice a6 a7 a8]) d7))))
 (FCall P U7 #[.agg #[.bool a,.slice b c d],.agg #[.bool e,.slice f g i]] z (fun d8 d9=>∃ (a9:Bool) (b0:OA) (b1 b2:Nat) (b3:Bool) (b4:OA) (b5 b6:Nat),d8= .agg #[.bool a9,.slice b0 b1 b2,.bool b3,.slice b4 b5 b6]/\K (.agg #[.bool a9,.slice b0 b1 b2,.bool b3,.slice b4 b5 b6]) d9)))))))
theorem A32 a b c d e f g i(hvc:A33 prog a b c d e f g i h K):FCall prog T0 #[.agg #[.bool a,.slice b c d],.agg #[.bool e,.slice f g i]] h K:=
 C7 bod func132 [.cell 4 106] ⟨[],[(2,⟨[11],[],[.bool false],⟨[6,7,8,9,10,11],[]⟩⟩),(5,⟨[],[(2,2),(3,2)],[.bool false,.slice none 0 0,.bool false,.slice none 0 0],⟨[13,14,15,16,17,18,19],[2,3]⟩⟩)],[(4,([0,2,1,3,4,5],[])),(9,([0,1,3,4,2,5,6,7],[]))],[],[]⟩ 39 [2,3,4,5] [115,116,138,140,145,159,184] [] (by kernel_rfl) hvc
def B2q(P:Program)(a:Bool)(b:OA)(c d:Nat)(e:Bool)(f:OA)(g i:Nat)(h:Heap)(K:VP):Prop:=
 FCall P U1 #[.agg #[.bool e,.slice f g i]] h (fun l k=>∃ (j:Bool),l= .bool j/\Br j (K (.agg #[.bool a,.slice b c d,.bool false,.slice none 0 0]) k)
 (K (.agg #[.bool a,.slice b c d,.bool e,.slice f g i]) k))
theorem A8e a b c d e f g i(hvc:B2q prog a b c d e f g i h K):FCall prog U7 #[.agg #[.bool a,.slice b c d],.agg #[.bool e,.slice f g i]] h K:=
 C7 bod func159 [.cell 4 106] an0 12 [2,3,4] [116] [] (by kernel_rfl) hvc
def B2r(P:Program)(e:Bool)(f:OA)(g i:Nat)(a:Bool)(b:OA)(c d:Nat)(h:Heap)(K:VP):Prop:=
 FCall P U1 #[.agg #[.bool a,.slice b c d]] h (fun A x=>∃ (o:Bool),A= .bool o/\Br o (K (.tuple #[.agg #[.bool e,.slice f g i],.agg #[.bool a,.slice b c d]]) x)
 (FCall P Ju #[.agg #[.bool e,.slice f g i],.agg #[.bool a,.slice b c d]] x (fun B y=>∃ (j:Bool) (k:OA) (l m:Nat),B= .agg #[.bool j,.slice k l m]/\FCall P Eg #[.agg #[.bool e,.slice f g i],.agg #[.bool j,.slice k l m]] y (fun C n=>∃ (p:Bool) (q:OA) (r s:Nat),C= .agg #[.bool p,.slice q r s]/\Heap.le y n/\FCall P Eg #[.agg #[.bool a,.slice b c d],.agg #[.bool j,.slice k l m]] n (fun D z=>∃ (t:Bool) (u:OA) (v w:Nat),D= .agg #[.bool t,.slice u v w]/\Heap.le n z/\K (.tuple #[.agg #[.bool p,.slice q r s],.agg #[.bool t,.slice u v w]]) z)))))
theorem A8f a b c d e f g i(hvc:B2r prog a b c d e f g i h K):FCall prog Na #[.agg #[.bool a,.slice b c d],.agg #[.bool e,.slice f g i]] h K:=
 C7 bod func158 [.cell 4 102,.cell 5 102] { orders:=[(4,([0,1,3,4,2,5,6,7],[]))] } 20 [2,3,4,5,6] [115,116,140] [] (by kernel_rfl) hvc
def C2a(P:Program)(L:ByteArray)(h:Heap)(K:VP):Prop:=
 FCall P Mz #[.string L] h (fun M C=>∃ (q:Bool) (r e:ByteArray) (s:Bool),M= .tuple #[.agg #[.bool q,.string r,.string e],.bool s]/\Br (!s) (K (.tuple #[.agg #[.bool false,.slice none 0 0,.bool false,.slice none 0 0],.bool false]) C)
 (FCall P Jf #[.string r] C (fun N D=>∃ (f:Bool) (g:OA) (i j:Nat),N= .agg #[.bool f,.slice g i j]/\∃ (k:LP),(Br q (FCall P My #[.agg #[.bool f,.slice g i j]] D (fun O Q=>∃ (t:Bool) (u:OA) (v w:Nat),O= .agg #[.bool t,.slice u v w]/\k [.bool t,.slice u v w,.bool false,.slice none 0 0] Q))
 (k [.bool f,.slice g i j,.bool false,.slice none 0 0] D))/\
 ∀ a b c d F G H J p,k [.bool a,.slice b c d,.bool F,.slice G H J] p->Br (C5q e==C5q ({ data:=#[] }:ByteArray)) (K (.tuple #[.agg #[.bool a,.slice b c d,.bool F,.slice G H J],.bool true]) p)
 (FCall P Jf #[.string e] p (fun R S=>∃ (l:Bool) (m:OA) (n o:Nat),R= .agg #[.bool l,.slice m n o]/\FCall P Ju #[.agg #[.bool a,.slice b c d],.agg #[.bool l,.slice m n o]] S (fun T V=>∃ (x:Bool) (y:OA) (z A:Nat),T= .agg #[.bool x,.slice y z A]/\FCall P U1 #[.agg #[.bool x,.slice y z A]] V (fun W E=>∃ (B:Bool),W= .bool B/\Br (!B) (K (.tuple #[.agg #[.bool false,.slice none 0 0,.bool false,.slice none 0 0],.bool false]) E)
 (K (.tuple #[.agg #[.bool a,.slice b c d,.bool l,.slice m n o],.bool true]) E))))))))
theorem B5z a(hvc:C2a prog a h K):FCall prog A4o #[.string a] h K:=
 C7 bod func83 [.cell 2 106,.tmp 3] { cuts:=[(7,⟨[],[(6,4)],[.bool false,.slice none 0 0,.bool false,.slice none 0 0],⟨[19,20,21,22,23,24],[6]⟩⟩)] } 42 [2,4,6] [113,114,115,116,145] [] (by kernel_rfl) hvc
def B7j(P:Program)(g:ByteArray)(h:Heap)(K:VP):Prop:=
 FCall P Hp #[.string g] h (fun C x=>∃ (z:Int) (A:Int) (i:Bool),C= .tuple #[.agg #[I z,I A],.bool i]/\Br i (K (.bool true) x)
 (FCall P Mz #[.string g] x (fun D b=>∃ (B:Bool) (j c:ByteArray) (a:Bool),D= .tuple #[.agg #[.bool B,.string j,.string c],.bool a]/\Br (!a) (K (.bool a) b)
 (Br (C5q c==C5q ({ data:=#[] }:ByteArray)) (K (.bool a) b)
 (FCall P Jf #[.string j] b (fun E d=>∃ (k:Bool) (l:OA) (m n:Nat),E= .agg #[.bool k,.slice l m n]/\Heap.le b d/\FCall P Jf #[.string c] d (fun F e=>∃ (o:Bool) (p:OA) (q r:Nat),F= .agg #[.bool o,.slice p q r]/\Heap.le d e/\FCall P Ju #[.agg #[.bool k,.slice l m n],.agg #[.bool o,.slice p q r]] e (fun G f=>∃ (s:Bool) (t:OA) (u v:Nat),G= .agg #[.bool s,.slice t u v]/\Heap.le e f/\FCall P U1 #[.agg #[.bool s,.slice t u v]] f (fun H y=>∃ (w:Bool),H= .bool w/\Heap.le f y/\K (.bool w) y)))))))))
theorem B2n a(hvc:B7j prog a h K):FCall prog Rl #[.string a] h K:=
 C7 bod func46 [.tmp 2] { orders:=[(7,([0,1,3,4,2,5,6,7,8],[]))] } 34 [3,5] [112,113,114,115,116] [] (by kernel_rfl) hvc
def A6v(P:Program)(b:Int)(h:Heap)(K:VP):Prop:=
 FCall P Hz #[I b,I 10] h (fun c d=>∃ (a:ByteArray),c= .string a/\K (.string a) d)
theorem A5a a(hvc:A6v prog a h K):FCall prog Xa #[I a] h K:=
 C7 bod func148 [.tmp 2] an0 5 [] [156] [] (by kernel_rfl) hvc
def C29(P:Program)(a:ByteArray)(h:Heap)(K:VP):Prop:=
 Br (C5q a==C5q ({ data:=#[48] }:ByteArray)) (K (I 0) h)
 (FCall P Rl #[.string a] h (fun e b=>∃ (c:Bool),e= .bool c/\Br (!c) (K (I 0) b)
 (∃ (d:UInt8),(0<=(0:Int)/\(a)[((0:Int)).toNat]? = some d)/\Br (((d.toNat:Nat):Int)==(45:Int)) (K (I (-1:Int)) b)
 (K (I 1) b))))
theorem B5y a(hvc:C29 prog a h K):FCall prog Tq #[.string a] h K:=
 C7 bod func58 [.tmp 2] an0 15 [] [46] [] (by kernel_rfl) hvc
def C51(P:Program)(a:Bool)(b:OA)(c d:Nat)(e:Bool)(f:OA)(g i:Nat)(h:Heap)(K:VP):Prop:=
 K (.agg #[.bool a,.slice b c d]) h
theorem C01 a b c d e f g i(hvc:C51 prog a b c d e f g i h K):FCall prog Xb #[.agg #[.bool a,.slice b c d,.bool e,.slice f g i]] h K:=
 C7 bod func86 [.cell 2 102] an0 5 [1,2] [] [] (by kernel_rfl) hvc
def C55(P:Program)(o:Bool)(p:OA)(q r:Nat)(a:Bool)(b:OA)(c d:Nat)(h:Heap)(K:VP):Prop:=
 FCall P E9 #[.agg #[.bool a,.slice b c d]] h (fun l k=>∃ (e:Bool),l= .bool e/\Br e (FCall P Tp #[I 1] k (fun m n=>∃ (f:Bool) (g:OA) (i j:Nat),m= .agg #[.bool f,.slice g i j]/\K (.agg #[.bool f,.slice g i j]) n))
 (K (.agg #[.bool a,.slice b c d]) k))
theorem C05 a b c d e f g i(hvc:C55 prog a b c d e f g i h K):FCall prog Qg #[.agg #[.bool a,.slice b c d,.bool e,.slice f g i]] h K:=
 C7 bod func84 [.cell 2 102] an0 9 [1,2] [138,139] [] (by kernel_rfl) hvc
def B2u(P:Program)(a:Bool)(b:OA)(c d:Nat)(e:Bool)(f:OA)(g i:Nat)(h:Heap)(K:VP):Prop:=
 FCall P E9 #[.agg #[.bool e,.slice f g i]] h (fun D B=>∃ (j:Bool),D= .bool j/\Br j (FCall P Zm #[.agg #[.bool a,.slice b c d]] B (fun E C=>∃ (k:Int) (l:Bool),E= .tuple #[I k,.bool l]/\Br l (FCall P Xa #[I k] C (fun F G=>∃ (m:ByteArray),F= .string m/\K (.string m) G))
 (FCall P Tl #[.agg #[.bool a,.slice b c d]] C (fun H J=>∃ (n:ByteArray),H= .string n/\K (.string n) J))))
 (FCall P Ho #[.agg #[.bool a,.slice b c d],.slice none 0 0] B (fun L M=>∃ (o:OA) (p q:Nat),L= .slice o p q/\wpH P (Instr.buildSlice 199 1 #[(0,Y (47:Int))]) (fun N O=>∃ (r:OA) (s t:Nat),N= .slice r s t/\wpH P (Builtin.append_ #[199,199] 199 #[.slice o p q,.slice r s t]) (fun Q R=>∃ (u:OA) (v w:Nat),Q= .slice u v w/\FCall P Ho #[.agg #[.bool e,.slice f g i],.slice u v w] R (fun S T=>∃ (x:OA) (y z:Nat),S= .slice x y z/\wpH P (convert 199 9 (.slice x y z)) (fun V W=>∃ (A:ByteArray),V= .string A/\K (.string A) W) T)) O) M)))
theorem A8g a b c d e f g i(hvc:B2u prog a b c d e f g i h K):FCall prog Tr #[.agg #[.bool a,.slice b c d,.bool e,.slice f g i]] h K:=
 C7 bod func73 [.tmp 2] an0 31 [1] [138,147,148,149,150] [] (by kernel_rfl) hvc
def C2b(P:Program)(b:Bool)(c:OA)(d e:Nat)(i:Bool)(j:OA)(k l:Nat)(h:Heap)(K:VP):Prop:=
 FCall P Tm #[.agg #[.bool b,.slice c d e]] h (fun f g=>∃ a,f=I a/\K (I a) g)
theorem B60 a b c d e f g i(hvc:C2b prog a b c d e f g i h K):FCall prog Zp #[.agg #[.bool a,.slice b c d,.bool e,.slice f g i]] h K:=
 C7 bod func121 [.tmp 2] an0 6 [1] [184] [] (by kernel_rfl) hvc
def B2w(P:Program)(b:Bool)(c:OA)(d e:Nat)(i:Bool)(j:OA)(k l:Nat)(h:Heap)(K:VP):Prop:=
 FCall P E9 #[.agg #[.bool b,.slice c d e]] h (fun f g=>∃ (a:Bool),f= .bool a/\K (.bool a) g)
theorem A8i a b c d e f g i(hvc:B2w prog a b c d e f g i h K):FCall prog Eh #[.agg #[.bool a,.slice b c d,.bool e,.slice f g i]] h K:=
 C7 bod func106 [.tmp 2] an0 6 [1] [138] [] (by kernel_rfl) hvc
def B7n(P:Program)(d:Bool)(e:OA)(f g:Nat)(i:Bool)(j:OA)(k l:Nat)(h:Heap)(K:VP):Prop:=
 FCall P E9 #[.agg #[.bool i,.slice j k l]] h (fun m c=>∃ (a:Bool),m= .bool a/\Br a (FCall P U1 #[.agg #[.bool d,.slice e f g]] c (fun n o=>∃ (b:Bool),n= .bool b/\K (.bool b) o))
 (K (.bool false) c))
theorem B2x a b c d e f g i(hvc:B7n prog a b c d e f g i h K):FCall prog Zq #[.agg #[.bool a,.slice b c d,.bool e,.slice f g i]] h K:=
 C7 bod func105 [.tmp 2] an0 11 [1] [116,138] [] (by kernel_rfl) hvc
def C52(P:Program)(f:Bool)(g:OA)(i j:Nat)(k:Bool)(l:OA)(m n:Nat)(h:Heap)(K:VP):Prop:=
 FCall P My #[.agg #[.bool f,.slice g i j]] h (fun o e=>∃ (a:Bool) (b:OA) (c d:Nat),o= .agg #[.bool a,.slice b c d]/\Heap.le h e/\K (.agg #[.bool a,.slice b c d,.bool k,.slice l m n]) e)
theorem C02 a b c d e f g i(hvc:C52 prog a b c d e f g i h K):FCall prog B1a #[.agg #[.bool a,.slice b c d,.bool e,.slice f g i]] h K:=
 C7 bod func71 [.cell 2 106] { orders:=[(1,([0,1,3,4,2,5,6],[]))] } 9 [1,2] [145] [] (by kernel_rfl) hvc
def C56(P:Program)(r:Bool)(s:OA)(t u:Nat)(e:Bool)(f:OA)(g i:Nat)(v:Bool)(w:OA)(x y:Nat)(a:Bool)(b:OA)(c d:Nat)(h:Heap)(K:VP):Prop:=
 ∃ (A:LP),(FCall P E9 #[.agg #[.bool e,.slice f g i]] h (fun i3 h2=>∃ (a1:Bool),i3= .bool a1/\Br a1 (FCall P E9 #[.agg #[.bool a,.slice b c d]] h2 (fun i4 i5=>∃ (a2:Bool),i4= .bool a2/\A [.bool a2] i5))
 (A [.bool false] h2)))/\
 ∀ i1 a0,A [.bool i1] a0->Br i1 (FCall P Qf #[.agg #[.bool r,.slice s t u],.agg #[.bool v,.slice w x y]] a0 (fun i6 i7=>∃ (a3:Bool) (a4:OA) (a5 a6:Nat),i6= .agg #[.bool a3,.slice a4 a5 a6]/\K (.agg #[.bool a3,.slice a4 a5 a6,.bool false,.slice none 0 0]) i7))
 (∃ (a7:LP),(FCall P E9 #[.agg #[.bool e,.slice f g i]] a0 (fun i8 i9=>∃ (a8:Bool),i8= .bool a8/\a7 [.bool a8] i9))/\
 ∀ i2 z,a7 [.bool i2] z->Br i2 (FCall P Bf #[.agg #[.bool r,.slice s t u],.agg #[.bool a,.slice b c d]] z (fun j0 L=>∃ (a9:Bool) (b0:OA) (b1 b2:Nat),j0= .agg #[.bool a9,.slice b0 b1 b2]/\Heap.le z L/\FCall P Qf #[.agg #[.bool a9,.slice b0 b1 b2],.agg #[.bool v,.slice w x y]] L (fun j1 h3=>∃ (b3:Bool) (b4:OA) (b5 b6:Nat),j1= .agg #[.bool b3,.slice b4 b5 b6]/\Heap.le L h3/\K (.agg #[.bool b3,.slice b4 b5 b6,.bool a,.slice b c d]) h3)))
 (FCall P E9 #[.agg #[.bool a,.slice b c d]] z (fun j2 M=>∃ (b7:Bool),j2= .bool b7/\Br b7 (FCall P Bf #[.agg #[.bool v,.slice w x y],.agg #[.bool e,.slice f g i]] M (fun j3 N=>∃ (b8:Bool) (b9:OA) (c0 c1:Nat),j3= .agg #[.bool b8,.slice b9 c0 c1]/\Heap.le M N/\FCall P Qf #[.agg #[.bool b8,.slice b9 c0 c1],.agg #[.bool r,.slice s t u]] N (fun j4 h4=>∃ (c2:Bool) (c3:OA) (c4 c5:Nat),j4= .agg #[.bool c2,.slice c3 c4 c5]/\Heap.le N h4/\K (.agg #[.bool c2,.slice c3 c4 c5,.bool e,.slice f g i]) h4)))
 (FCall P Ju #[.agg #[.bool e,.slice f g i],.agg #[.bool a,.slice b c d]] M (fun j5 h5=>∃ (j:Bool) (k:OA) (l m:Nat),j5= .agg #[.bool j,.slice k l m]/\FCall P Eg #[.agg #[.bool a,.slice b c d],.agg #[.bool j,.slice k l m]] h5 (fun j6 O=>∃ (c6:Bool) (c7:OA) (c8 c9:Nat),j6= .agg #[.bool c6,.slice c7 c8 c9]/\Heap.le h5 O/\FCall P Eg #[.agg #[.bool e,.slice f g i],.agg #[.bool j,.slice k l m]] O (fun j7 Q=>∃ (B:Bool) (C:OA) (D E:Nat),j7= .agg #[.bool B,.slice C D E]/\Heap.le O Q/\FCall P Bf #[.agg #[.bool r,.slice s t u],.agg #[.bool c6,.slice c7 c8 c9]] Q (fun j8 R=>∃ (d0:Bool) (d1:OA) (d2 d3:Nat),j8= .agg #[.bool d0,.slice d1 d2 d3]/\Heap.le Q R/\FCall P Bf #[.agg #[.bool v,.slice w x y],.agg #[.bool B,.slice C D E]] R (fun j9 S=>∃ (d4:Bool) (d5:OA) (d6 d7:Nat),j9= .agg #[.bool d4,.slice d5 d6 d7]/\Heap.le R S/\FCall P Qf #[.agg #[.bool d0,.slice d1 d2 d3],.agg #[.bool d4,.slice d5 d6 d7]] S (fun k0 h6=>∃ (n:Bool) (o:OA) (p q:Nat),k0= .agg #[.bool n,.slice o p q]/\Heap.le S h6/\FCall P E9 #[.agg #[.bool n,.slice o p q]] h6 (fun k1 h7=>∃ (d8:Bool),k1= .bool d8/\Br d8 (K (.agg #[.bool false,.slice none 0 0,.bool false,.slice none 0 0]) h7)
 (FCall P U1 #[.agg #[.bool j,.slice k l m]] h7 (fun k2 T=>∃ (d9:Bool),k2= .bool d9/\Br d9 (FCall P Bf #[.agg #[.bool e,.slice f g i],.agg #[.bool a,.slice b c d]] T (fun k3 V=>∃ (e0:Bool) (e1:OA) (e2 e3:Nat),k3= .agg #[.bool e0,.slice e1 e2 e3]/\Heap.le T V/\FCall P U7 #[.agg #[.bool n,.slice o p q],.agg #[.bool e0,.slice e1 e2 e3]] V (fun k4 h8=>∃ (e4:Bool) (e5:OA) (e6 e7:Nat) (e8:Bool) (e9:OA) (f0 f1:Nat),k4= .agg #[.bool e4,.slice e5 e6 e7,.bool e8,.slice e9 f0 f1]/\Heap.le V h8/\K (.agg #[.bool e4,.slice e5 e6 e7,.bool e8,.slice e9 f0 f1]) h8)))
 (FCall P Ju #[.agg #[.bool n,.slice o p q],.agg #[.bool j,.slice k l m]] T (fun k5 h9=>∃ (F:Bool) (G:OA) (H J:Nat),k5= .agg #[.bool F,.slice G H J]/\FCall P Eg #[.agg #[.bool n,.slice o p q],.agg #[.bool F,.slice G H J]] h9 (fun k6 W=>∃ (f2:Bool) (f3:OA) (f4 f5:Nat),k6= .agg #[.bool f2,.slice f3 f4 f5]/\Heap.le h9 W/\FCall P Eg #[.agg #[.bool a,.slice b c d],.agg #[.bool F,.slice G H J]] W (fun k7 X=>∃ (f6:Bool) (f7:OA) (f8 f9:Nat),k7= .agg #[.bool f6,.slice f7 f8 f9]/\Heap.le W X/\FCall P Bf #[.agg #[.bool B,.slice C D E],.agg #[.bool f6,.slice f7 f8 f9]] X (fun k8 Z=>∃ (g0:Bool) (g1:OA) (g2 g3:Nat),k8= .agg #[.bool g0,.slice g1 g2 g3]/\Heap.le X Z/\FCall P U7 #[.agg #[.bool f2,.slice f3 f4 f5],.agg #[.bool g0,.slice g1 g2 g3]] Z (fun k9 i0=>∃ (g4:Bool) (g5:OA) (g6 g7:Nat) (g8:Bool) (g9:OA) (h0 h1:Nat),k9= .agg #[.bool g4,.slice g5 g6 g7,.bool g8,.slice g9 h0 h1]/\Heap.le Z i0/\K (.agg #[.bool g4,.slice g5 g6 g7,.bool g8,.slice g9 h0 h1]) i0)))))))))))))))))))
theorem C06 a b c d e f g i j k l m n o p q(hvc:C56 prog a b c d e f g i j k l m n o p q h K):FCall prog A6c #[.agg #[.bool a,.slice b c d,.bool e,.slice f g i],.agg #[.bool j,.slice k l m,.bool n,.slice o p q]] h K:=
 C7 bod func130 [.cell 4 106] ⟨[],[(2,⟨[10],[],[.bool false],⟨(Lrg 10 9),[]⟩⟩),(4,⟨[25],[],[.bool false],⟨[25,26,27,28],[]⟩⟩)],[(4,([0,1,2,3,5,6,8,9,4,7,10,11],[])),(6,([0,1,2,3,5,6,8,9,4,7,10,11],[])),(8,([0,1,2,4,5,6,8,9,3,7,10,11],[])),(9,([0,1,2,4,5,6,9,3,7,8,10],[])),(15,([0,1,3,4,5,6,2,7,8,9,10],[]))],[],[]⟩ 102 (Lrg 2 8) [115,116,138,140,154,159,183] [] (by kernel_rfl) hvc
def C50(P:Program)(t:Bool)(u:OA)(v w:Nat)(x:Bool)(y:OA)(z A:Nat)(B:Bool)(C:OA)(D E:Nat)(F:Bool)(G:OA)(H J:Nat)(h:Heap)(K:VP):Prop:=
 FCall P B1a #[.agg #[.bool B,.slice C D E,.bool F,.slice G H J]] h (fun L a=>∃ (b:Bool) (c:OA) (d e:Nat) (f:Bool) (g:OA) (i j:Nat),L= .agg #[.bool b,.slice c d e,.bool f,.slice g i j]/\Heap.le h a/\FCall P A6c #[.agg #[.bool t,.slice u v w,.bool x,.slice y z A],.agg #[.bool b,.slice c d e,.bool f,.slice g i j]] a (fun M s=>∃ (k:Bool) (l:OA) (m n:Nat) (o:Bool) (p:OA) (q r:Nat),M= .agg #[.bool k,.slice l m n,.bool o,.slice p q r]/\Heap.le a s/\K (.agg #[.bool k,.slice l m n,.bool o,.slice p q r]) s))
theorem C00 a b c d e f g i j k l m n o p q(hvc:C50 prog a b c d e f g i j k l m n o p q h K):FCall prog B19 #[.agg #[.bool a,.slice b c d,.bool e,.slice f g i],.agg #[.bool j,.slice k l m,.bool n,.slice o p q]] h K:=
 C7 bod func167 [.cell 4 106] an0 9 [2,3,4] [71,130] [] (by kernel_rfl) hvc
def C53(P:Program)(a:Bool)(b:OA)(c d:Nat)(t:Bool)(u:OA)(v w:Nat)(e:Bool)(f:OA)(g i:Nat)(x:Bool)(y:OA)(z A:Nat)(h:Heap)(K:VP):Prop:=
 ∃ (k:LP),(FCall P E9 #[.agg #[.bool a,.slice b c d]] h (fun d3 c8=>∃ (B:Bool),d3= .bool B/\Br B (k [.bool true] c8)
 (FCall P E9 #[.agg #[.bool e,.slice f g i]] c8 (fun d4 d5=>∃ (C:Bool),d4= .bool C/\k [.bool C] d5))))/\
 ∀ d1 s,k [.bool d1] s->Br d1 (K (.agg #[.bool false,.slice none 0 0,.bool false,.slice none 0 0]) s)
 (∃ (l:LP),(FCall P E9 #[.agg #[.bool t,.slice u v w]] s (fun d6 c9=>∃ (D:Bool),d6= .bool D/\Br D (FCall P E9 #[.agg #[.bool x,.slice y z A]] c9 (fun d7 d8=>∃ (E:Bool),d7= .bool E/\l [.bool E] d8))
 (l [.bool false] c9)))/\
 ∀ d2 j,l [.bool d2] j->Br d2 (FCall P Bf #[.agg #[.bool a,.slice b c d],.agg #[.bool e,.slice f g i]] j (fun d9 e0=>∃ (F:Bool) (G:OA) (H J:Nat),d9= .agg #[.bool F,.slice G H J]/\K (.agg #[.bool F,.slice G H J,.bool false,.slice none 0 0]) e0))
 (FCall P Qg #[.agg #[.bool e,.slice f g i,.bool x,.slice y z A]] j (fun e1 m=>∃ (L:Bool) (M:OA) (N O:Nat),e1= .agg #[.bool L,.slice M N O]/\Heap.le j m/\FCall P Na #[.agg #[.bool a,.slice b c d],.agg #[.bool L,.slice M N O]] m (fun e2 n=>∃ (Q:Bool) (R:OA) (S T:Nat) (V:Bool) (W:OA) (X Z:Nat),e2= .tuple #[.agg #[.bool Q,.slice R S T],.agg #[.bool V,.slice W X Z]]/\Heap.le m n/\FCall P Qg #[.agg #[.bool a,.slice b c d,.bool t,.slice u v w]] n (fun e3 o=>∃ (a0:Bool) (a1:OA) (a2 a3:Nat),e3= .agg #[.bool a0,.slice a1 a2 a3]/\Heap.le n o/\FCall P Na #[.agg #[.bool e,.slice f g i],.agg #[.bool a0,.slice a1 a2 a3]] o (fun e4 p=>∃ (a4:Bool) (a5:OA) (a6 a7:Nat) (a8:Bool) (a9:OA) (b0 b1:Nat),e4= .tuple #[.agg #[.bool a4,.slice a5 a6 a7],.agg #[.bool a8,.slice a9 b0 b1]]/\Heap.le o p/\FCall P Bf #[.agg #[.bool Q,.slice R S T],.agg #[.bool a4,.slice a5 a6 a7]] p (fun e5 q=>∃ (b2:Bool) (b3:OA) (b4 b5:Nat),e5= .agg #[.bool b2,.slice b3 b4 b5]/\Heap.le p q/\FCall P Bf #[.agg #[.bool a8,.slice a9 b0 b1],.agg #[.bool V,.slice W X Z]] q (fun e6 r=>∃ (b6:Bool) (b7:OA) (b8 b9:Nat),e6= .agg #[.bool b6,.slice b7 b8 b9]/\Heap.le q r/\FCall P U7 #[.agg #[.bool b2,.slice b3 b4 b5],.agg #[.bool b6,.slice b7 b8 b9]] r (fun e7 d0=>∃ (c0:Bool) (c1:OA) (c2 c3:Nat) (c4:Bool) (c5:OA) (c6 c7:Nat),e7= .agg #[.bool c0,.slice c1 c2 c3,.bool c4,.slice c5 c6 c7]/\Heap.le r d0/\K (.agg #[.bool c0,.slice c1 c2 c3,.bool c4,.slice c5 c6 c7]) d0)))))))))
theorem C03 a b c d e f g i j k l m n o p q(hvc:C53 prog a b c d e f g i j k l m n o p q h K):FCall prog Xc #[.agg #[.bool a,.slice b c d,.bool e,.slice f g i],.agg #[.bool j,.slice k l m,.bool n,.slice o p q]] h K:=
 C7 bod func81 [.cell 4 106] ⟨[],[(2,⟨[16],[],[.bool false],⟨(Lrg 9 8),[]⟩⟩),(4,⟨[25],[],[.bool false],⟨(Lrg 18 8),[]⟩⟩)],[(5,([0,1,2,8,9,3,4,5,6,7,10,11],[])),(6,([0,1,2,8,9,3,4,5,6,7,10,11],[])),(7,([0,1,3,4,2,5,6,7],[]))],[],[]⟩ 55 [2,3,4,5,6,7,8] [84,138,154,158,159] [] (by kernel_rfl) hvc
def A6w(P:Program)(a:Bool)(b:OA)(c d:Nat)(l:Bool)(m:OA)(n o:Nat)(h:Heap)(K:VP):Prop:=
 FCall P Tm #[.agg #[.bool a,.slice b c d]] h (fun a2 e=>∃ k,a2=I k/\Br (k==(0:Int)) (K (.agg #[.bool false,.slice none 0 0,.bool false,.slice none 0 0]) e)
 (Br (k==(-1:Int)) (FCall P Qg #[.agg #[.bool a,.slice b c d,.bool l,.slice m n o]] e (fun a3 f=>∃ (p:Bool) (q:OA) (r s:Nat),a3= .agg #[.bool p,.slice q r s]/\Heap.le e f/\FCall P My #[.agg #[.bool p,.slice q r s]] f (fun a4 g=>∃ (t:Bool) (u:OA) (v w:Nat),a4= .agg #[.bool t,.slice u v w]/\Heap.le f g/\FCall P My #[.agg #[.bool a,.slice b c d]] g (fun a5 i=>∃ (x:Bool) (y:OA) (z A:Nat),a5= .agg #[.bool x,.slice y z A]/\Heap.le g i/\FCall P U7 #[.agg #[.bool t,.slice u v w],.agg #[.bool x,.slice y z A]] i (fun a6 a0=>∃ (B:Bool) (C:OA) (D E:Nat) (F:Bool) (G:OA) (H J:Nat),a6= .agg #[.bool B,.slice C D E,.bool F,.slice G H J]/\Heap.le i a0/\K (.agg #[.bool B,.slice C D E,.bool F,.slice G H J]) a0)))))
 (FCall P Qg #[.agg #[.bool a,.slice b c d,.bool l,.slice m n o]] e (fun a7 j=>∃ (L:Bool) (M:OA) (N O:Nat),a7= .agg #[.bool L,.slice M N O]/\Heap.le e j/\FCall P U7 #[.agg #[.bool L,.slice M N O],.agg #[.bool a,.slice b c d]] j (fun a8 a1=>∃ (Q:Bool) (R:OA) (S T:Nat) (V:Bool) (W:OA) (X Z:Nat),a8= .agg #[.bool Q,.slice R S T,.bool V,.slice W X Z]/\Heap.le j a1/\K (.agg #[.bool Q,.slice R S T,.bool V,.slice W X Z]) a1)))))
theorem A5b a b c d e f g i(hvc:A6w prog a b c d e f g i h K):FCall prog Pa #[.agg #[.bool a,.slice b c d,.bool e,.slice f g i]] h K:=
 C7 bod func146 [.cell 2 106] { orders:=[(5,([0,3,4,1,2,5,6,7],[])),(6,([0,2,3,1,4,5],[]))] } 23 [1,2] [84,145,159,184] [] (by kernel_rfl) hvc
def C54(P:Program)(t:Bool)(u:OA)(v w:Nat)(x:Bool)(y:OA)(z A:Nat)(B:Bool)(C:OA)(D E:Nat)(F:Bool)(G:OA)(H J:Nat)(h:Heap)(K:VP):Prop:=
 FCall P Pa #[.agg #[.bool B,.slice C D E,.bool F,.slice G H J]] h (fun L a=>∃ (b:Bool) (c:OA) (d e:Nat) (f:Bool) (g:OA) (i j:Nat),L= .agg #[.bool b,.slice c d e,.bool f,.slice g i j]/\Heap.le h a/\FCall P Xc #[.agg #[.bool t,.slice u v w,.bool x,.slice y z A],.agg #[.bool b,.slice c d e,.bool f,.slice g i j]] a (fun M s=>∃ (k:Bool) (l:OA) (m n:Nat) (o:Bool) (p:OA) (q r:Nat),M= .agg #[.bool k,.slice l m n,.bool o,.slice p q r]/\Heap.le a s/\K (.agg #[.bool k,.slice l m n,.bool o,.slice p q r]) s))
theorem C04 a b c d e f g i j k l m n o p q(hvc:C54 prog a b c d e f g i j k l m n o p q h K):FCall prog Ts #[.agg #[.bool a,.slice b c d,.bool e,.slice f g i],.agg #[.bool j,.slice k l m,.bool n,.slice o p q]] h K:=
 C7 bod func72 [.cell 4 106] an0 9 [2,3,4] [81,146] [] (by kernel_rfl) hvc
end Go.Proofs.YtajkakhfcokljaaGreatDoor
