/-
  Texts of this proof, merged by a program of ours.
-/
import Derived.Test.YtajkakhfcokljaaGreatDoorProg
import Derived.Test.YtajkakhfcokljaaGreatDoorG05
import Derived.Test.YtajkakhfcokljaaGreatDoorG06
import Derived.Test.YtajkakhfcokljaaGreatDoorG07
import Derived.Test.YtajkakhfcokljaaGreatDoorG08
open Go.Proofs.Tryz
set_option linter.all false
open _root_.ByteArray renaming toList->C34,size->C35
namespace Go.Proofs.YtajkakhfcokljaaGreatDoor
open Go
set_option maxRecDepth 100000
variable {h:Heap} {K:VP}
abbrev Ks:Nat:=113
abbrev X9:Nat:=178
abbrev Fy:Nat:=112
abbrev B7s:Nat:=78
abbrev V9:Nat:=176
abbrev A90:Nat:=155
abbrev B1o:Nat:=79
abbrev Xl:Nat:=166
abbrev U7:Nat:=132
abbrev Bk:Nat:=159
abbrev Kt:Nat:=158
abbrev A2y:Nat:=83
abbrev C08:Nat:=80
abbrev Py:Nat:=46
abbrev Ve:Nat:=148
abbrev C1z:Nat:=27
abbrev A2x:Nat:=58
abbrev C22:Nat:=86
abbrev Vf:Nat:=84
abbrev Rv:Nat:=73
abbrev A2z:Nat:=121
abbrev Ga:Nat:=106
abbrev Xm:Nat:=105
abbrev C23:Nat:=71
abbrev C24:Nat:=130
abbrev C21:Nat:=167
abbrev A4n:Nat:=81
abbrev Nj:Nat:=146
abbrev A4o:Nat:=72
abbrev C1s:Nat:=207
def B54(P:Program)(p:ByteArray)(h:Heap)(K:VP):Prop:=
 FCall P Gj #[.string p,.string ({ data:=#[45] }:ByteArray)] h (fun q r=>∃ (j:ByteArray) (b:Bool),q= .tuple #[.string j,.bool b]/\FCall P X9 #[.string j] r (fun s f=>∃ (a d:ByteArray),s= .tuple #[.string a,.string d]/\Br (C34 a==C34 ({ data:=#[48] }:ByteArray)) (Br (!b) (K (.tuple #[.agg #[.bool b,.string a,.string ({ data:=#[] }:ByteArray)],.bool (C34 d==C34 ({ data:=#[] }:ByteArray))]) f)
 (K (.tuple #[.agg #[.bool b,.string a,.string ({ data:=#[] }:ByteArray)],.bool false]) f))
 (∃ (i:LP),(Br (C34 a==C34 ({ data:=#[] }:ByteArray)) (i [.bool true] f)
 (∃ (k:UInt8),(0<=(0:Int)/\(a)[((0:Int)).toNat]? = some k)/\i [.bool (((k.toNat:Nat):Int)==(48:Int))] f))/\
 ∀ o e,i [.bool o] e->Br o (K (.tuple #[.agg #[.bool b,.string a,.string ({ data:=#[] }:ByteArray)],.bool false]) e)
 (Br (C34 d==C34 ({ data:=#[] }:ByteArray)) (K (.tuple #[.agg #[.bool b,.string a,.string ({ data:=#[] }:ByteArray)],.bool true]) e)
 (∃ (l:UInt8),(0<=(0:Int)/\(d)[((0:Int)).toNat]? = some l)/\Br (((l.toNat:Nat):Int) != (47:Int)) (K (.tuple #[.agg #[.bool b,.string a,.string ({ data:=#[] }:ByteArray)],.bool false]) e)
 ((0<=(1:Int)/\(1:Int)<=(((d).size:Nat):Int))/\FCall P X9 #[.string ((d).extract (((1:Int)).toNat) ((d).size))] e (fun t g=>∃ (c m:ByteArray),t= .tuple #[.string c,.string m]/\Br (C34 m==C34 ({ data:=#[] }:ByteArray)) (Br (!(C34 c==C34 ({ data:=#[] }:ByteArray))) (∃ (n:UInt8),(0<=(0:Int)/\(c)[((0:Int)).toNat]? = some n)/\Br (((n.toNat:Nat):Int) != (48:Int)) (K (.tuple #[.agg #[.bool b,.string a,.string c],.bool (!(C34 c==C34 ({ data:=#[49] }:ByteArray)))]) g)
 (K (.tuple #[.agg #[.bool b,.string a,.string c],.bool false]) g))
 (K (.tuple #[.agg #[.bool b,.string a,.string c],.bool false]) g))
 (K (.tuple #[.agg #[.bool b,.string a,.string c],.bool false]) g))))))))
theorem B0e a(hvc:B54 prog a h K):FCall prog Ks #[.string a] h K:=
 C8 bod func113 [.cell 2 164,.tmp 3] { cuts:=[(8,⟨[31],[],[.bool false],⟨(Lrg 31 10),[]⟩⟩)] } 77 [2,4] [177,178] [] (by kernel_rfl) hvc
def Vp(P:Program)(b:ByteArray)(h:Heap)(K:VP):Prop:=
 ∃ (e:LP),(∃ (f:LP) (g:LN),f [I 0] h/\
 ∀ a c,f [I a] c->Br (decide (a<((C35 b:Nat):Int))) (∃ (i:UInt8),(0<=a/\(b)[a.toNat]? = some i)/\Br (decide ((48:Int)<=((i.toNat:Nat):Int))) (∃ (j:UInt8),(0<=a/\(b)[a.toNat]? = some j)/\Br (decide (((j.toNat:Nat):Int)<=(57:Int))) (f [I (B5 (a+1))] c/\g [I (B5 (a+1))] c<g [I a] c)
 (e [I a] c))
 (e [I a] c))
 (e [I a] c))/\
 ∀ d k,e [I d] k->(0<=d/\d<=(((b).size:Nat):Int))/\(0<=d/\d<=(((b).size:Nat):Int))/\K (.tuple #[.string ((b).extract 0 (d.toNat)),.string ((b).extract (d.toNat) ((b).size))]) k
theorem Yp a(hvc:Vp prog a h K):FCall prog X9 #[.string a] h K:=
 C8 bod func178 [.tmp 2,.tmp 3] ⟨[(2,⟨[4],[],[.int .i64 0],⟨(Lrg 4 19),[]⟩⟩)],[(4,⟨[4],[],[.int .i64 0],⟨(Lrg 4 19),[]⟩⟩)],[],[],[]⟩ 29 [] [] [] (by kernel_rfl) hvc
def Vo(P:Program)(n:ByteArray)(h:Heap)(K:VP):Prop:=
 Br (decide (((C35 n:Nat):Int)>(20:Int))) (K (.tuple #[.agg #[I 0,I 0],.bool false]) h)
 (FCall P Ks #[.string n] h (fun x g=>∃ (o:Bool) (d a:ByteArray) (p:Bool),x= .tuple #[.agg #[.bool o,.string d,.string a],.bool p]/\∃ (b:LP),(Br (!p) (b [.bool true] g)
 (Br (decide (((C35 d:Nat):Int)>(9:Int))) (b [.bool true] g)
 (b [.bool (decide (((C35 a:Nat):Int)>(9:Int)))] g)))/\
 ∀ s i,b [.bool s] i->Br s (K (.tuple #[.agg #[I 0,I 0],.bool false]) i)
 (FCall P V9 #[.string d] i (fun y q=>∃ c,y=I c/\∃ (e:LP),(Br (!(C34 a==C34 ({ data:=#[] }:ByteArray))) (FCall P V9 #[.string a] q (fun z A=>∃ j,z=I j/\FCall P A90 #[I c,I j] A (fun B r=>∃ t,B=I t/\Br (t != (1:Int)) (K (.tuple #[.agg #[I 0,I 0],.bool false]) r)
 (e [I 0,I 0,I c,I j] r))))
 (e [I 0,I 0,I c,I 1] q))/\
 ∀ C D k l m,e [I C,I D,I k,I l] m->∃ (f:LP),(Br o (f [I (B5 (0-k)),I l] m)
 (f [I k,I l] m))/\
 ∀ u v w,f [I u,I v] w->K (.tuple #[.agg #[I u,I v],.bool true]) w))))
theorem Yo a(hvc:Vo prog a h K):FCall prog Fy #[.string a] h K:=
 C8 bod func112 [.cell 2 122,.tmp 3] { cuts:=[(5,⟨[29],[],[.bool false],⟨(Lrg 16 14),[]⟩⟩),(11,⟨[],[(2,2),(6,2)],[.int .i64 0,.int .i64 0,.int .i64 0,.int .i64 0],⟨([3]++Lrg 35 14),[2,6]⟩⟩),(13,⟨[],[(6,2)],[.int .i64 0,.int .i64 0],⟨[49,50,51,52,53,54],[6]⟩⟩)] } 56 [2,4,6] [113,155,176] [] (by kernel_rfl) hvc
def Pd(P:Program)(f:ByteArray)(h:Heap)(K:VP):Prop:=
 ∃ (d:LP) (g:LN),d [I 0,I 0] h/\
 ∀ b a c,d [I b,I a] c->Br (decide (a<((C35 f:Nat):Int))) (∃ (e:UInt8),(0<=a/\(f)[a.toNat]? = some e)/\d [I (B5 ((B5 ((10:Int)*b))+(B5 (wu8 (((e.toNat:Nat):Int)-48))))),I (B5 (a+1))] c/\g [I (B5 ((B5 ((10:Int)*b))+(B5 (wu8 (((e.toNat:Nat):Int)-48))))),I (B5 (a+1))] c<g [I b,I a] c)
 (K (I b) c)
theorem Tg a(hvc:Pd prog a h K):FCall prog V9 #[.string a] h K:=
 C8 bod func176 [.tmp 2] { loops:=[(3,⟨[3,7],[],[.int .i64 0,.int .i64 0],⟨([3,4]++Lrg 7 12),[]⟩⟩)] } 20 [] [] [] (by kernel_rfl) hvc
def C2i(P:Program)(f:Int)(g:Int)(h:Heap)(K:VP):Prop:=
 ∃ (d:LP) (e:LN),d [I f,I g] h/\
 ∀ b a c,d [I b,I a] c->Br (a != (0:Int)) (Br (decide (a=0)) False
 (d [I a,I (Int.tmod b a)] c/\e [I a,I (Int.tmod b a)] c<e [I b,I a] c))
 (K (I b) c)
theorem B7d a b(hvc:C2i prog a b h K):FCall prog A90 #[I a,I b] h K:=
 C8 bod func155 [.tmp 4] { loops:=[(1,⟨[0,1],[],[.int .i64 0,.int .i64 0],⟨[0,1,5,6,7,8,9,10],[]⟩⟩)] } 12 [] [] [] (by kernel_rfl) hvc
def B55(P:Program)(e:Int)(h:Heap)(K:VP):Prop:=
 FCall P Ru #[I e] h (fun f g=>∃ (a:Bool) (b:OA) (c d:Nat),f= .agg #[.bool a,.slice b c d]/\K (.agg #[.bool a,.slice b c d,.bool false,.slice none 0 0]) g)
theorem B0f a(hvc:B55 prog a h K):FCall prog Xl #[I a] h K:=
 C8 bod func166 [.cell 2 106] an0 6 [2] [139] [] (by kernel_rfl) hvc
def A1e(P:Program)(r:Bool)(s:OA)(t u:Nat)(j:Bool)(k:OA)(l m:Nat)(h:Heap)(K:VP):Prop:=
 ∃ (v:LP),(FCall P G0 #[.agg #[.bool j,.slice k l m]] h (fun c4 b7=>∃ (C:Bool),c4= .bool C/\Br C (v [.bool true] b7)
 (FCall P G0 #[.agg #[.bool r,.slice s t u]] b7 (fun c5 c6=>∃ (D:Bool),c5= .bool D/\v [.bool D] c6))))/\
 ∀ c1 B,v [.bool c1] B->Br c1 (K (.agg #[.bool false,.slice none 0 0,.bool false,.slice none 0 0]) B)
 (∃ (w:LP),(FCall P Rq #[.agg #[.bool j,.slice k l m]] B (fun c7 x=>∃ c2,c7=I c2/\Br (decide (c2<(0:Int))) (FCall P Kr #[.agg #[.bool r,.slice s t u]] x (fun c8 y=>∃ (E:Bool) (F:OA) (G H:Nat),c8= .agg #[.bool E,.slice F G H]/\Heap.le x y/\FCall P Kr #[.agg #[.bool j,.slice k l m]] y (fun c9 b8=>∃ (J:Bool) (L:OA) (M N:Nat),c9= .agg #[.bool J,.slice L M N]/\Heap.le y b8/\w [.bool E,.slice F G H,.bool J,.slice L M N] b8)))
 (w [.bool r,.slice s t u,.bool j,.slice k l m] x)))/\
 ∀ a b c d e f g i c3,w [.bool a,.slice b c d,.bool e,.slice f g i] c3->FCall P V7 #[.agg #[.bool e,.slice f g i]] c3 (fun d0 b9=>∃ (O:Bool),d0= .bool O/\Br O (K (.agg #[.bool a,.slice b c d,.bool false,.slice none 0 0]) b9)
 (FCall P Rs #[.agg #[.bool a,.slice b c d],.agg #[.bool e,.slice f g i]] b9 (fun d1 d2=>∃ (n:Bool) (o:OA) (p q:Nat),d1= .agg #[.bool n,.slice o p q]/\FCall P V7 #[.agg #[.bool n,.slice o p q]] d2 (fun d3 z=>∃ (Q:Bool),d3= .bool Q/\Br (!Q) (FCall P Kq #[.agg #[.bool a,.slice b c d],.agg #[.bool n,.slice o p q]] z (fun d4 A=>∃ (R:Bool) (S:OA) (T V:Nat),d4= .agg #[.bool R,.slice S T V]/\Heap.le z A/\FCall P Kq #[.agg #[.bool e,.slice f g i],.agg #[.bool n,.slice o p q]] A (fun d5 c0=>∃ (W:Bool) (X:OA) (Z a0:Nat),d5= .agg #[.bool W,.slice X Z a0]/\Heap.le A c0/\FCall P Bk #[.agg #[.bool R,.slice S T V],.agg #[.bool W,.slice X Z a0]] c0 (fun d6 d7=>∃ (a1:Bool) (a2:OA) (a3 a4:Nat) (a5:Bool) (a6:OA) (a7 a8:Nat),d6= .agg #[.bool a1,.slice a2 a3 a4,.bool a5,.slice a6 a7 a8]/\K (.agg #[.bool a1,.slice a2 a3 a4,.bool a5,.slice a6 a7 a8]) d7))))
 (FCall P Bk #[.agg #[.bool a,.slice b c d],.agg #[.bool e,.slice f g i]] z (fun d8 d9=>∃ (a9:Bool) (b0:OA) (b1 b2:Nat) (b3:Bool) (b4:OA) (b5 b6:Nat),d8= .agg #[.bool a9,.slice b0 b1 b2,.bool b3,.slice b4 b5 b6]/\K (.agg #[.bool a9,.slice b0 b1 b2,.bool b3,.slice b4 b5 b6]) d9)))))))
theorem A1d a b c d e f g i(hvc:A1e prog a b c d e f g i h K):FCall prog U7 #[.agg #[.bool a,.slice b c d],.agg #[.bool e,.slice f g i]] h K:=
 C8 bod func132 [.cell 4 106] ⟨[],[(2,⟨[11],[],[.bool false],⟨[6,7,8,9,10,11],[]⟩⟩),(5,⟨[],[(2,2),(3,2)],[.bool false,.slice none 0 0,.bool false,.slice none 0 0],⟨[13,14,15,16,17,18,19],[2,3]⟩⟩)],[(4,([0,2,1,3,4,5],[])),(9,([0,1,3,4,2,5,6,7],[]))],[],[]⟩ 39 [2,3,4,5] [115,116,138,140,145,159,184] [] (by kernel_rfl) hvc
def B0g(P:Program)(a:Bool)(b:OA)(c d:Nat)(e:Bool)(f:OA)(g i:Nat)(h:Heap)(K:VP):Prop:=
 FCall P V7 #[.agg #[.bool e,.slice f g i]] h (fun l k=>∃ (j:Bool),l= .bool j/\Br j (K (.agg #[.bool a,.slice b c d,.bool false,.slice none 0 0]) k)
 (K (.agg #[.bool a,.slice b c d,.bool e,.slice f g i]) k))
theorem A6i a b c d e f g i(hvc:B0g prog a b c d e f g i h K):FCall prog Bk #[.agg #[.bool a,.slice b c d],.agg #[.bool e,.slice f g i]] h K:=
 C8 bod func159 [.cell 4 106] an0 12 [2,3,4] [116] [] (by kernel_rfl) hvc
def B0h(P:Program)(e:Bool)(f:OA)(g i:Nat)(a:Bool)(b:OA)(c d:Nat)(h:Heap)(K:VP):Prop:=
 FCall P V7 #[.agg #[.bool a,.slice b c d]] h (fun A x=>∃ (o:Bool),A= .bool o/\Br o (K (.tuple #[.agg #[.bool e,.slice f g i],.agg #[.bool a,.slice b c d]]) x)
 (FCall P Rs #[.agg #[.bool e,.slice f g i],.agg #[.bool a,.slice b c d]] x (fun B y=>∃ (j:Bool) (k:OA) (l m:Nat),B= .agg #[.bool j,.slice k l m]/\FCall P Kq #[.agg #[.bool e,.slice f g i],.agg #[.bool j,.slice k l m]] y (fun C n=>∃ (p:Bool) (q:OA) (r s:Nat),C= .agg #[.bool p,.slice q r s]/\Heap.le y n/\FCall P Kq #[.agg #[.bool a,.slice b c d],.agg #[.bool j,.slice k l m]] n (fun D z=>∃ (t:Bool) (u:OA) (v w:Nat),D= .agg #[.bool t,.slice u v w]/\Heap.le n z/\K (.tuple #[.agg #[.bool p,.slice q r s],.agg #[.bool t,.slice u v w]]) z)))))
theorem A6j a b c d e f g i(hvc:B0h prog a b c d e f g i h K):FCall prog Kt #[.agg #[.bool a,.slice b c d],.agg #[.bool e,.slice f g i]] h K:=
 C8 bod func158 [.cell 4 102,.cell 5 102] { orders:=[(4,([0,1,3,4,2,5,6,7],[]))] } 20 [2,3,4,5,6] [115,116,140] [] (by kernel_rfl) hvc
def B9i(P:Program)(L:ByteArray)(h:Heap)(K:VP):Prop:=
 FCall P Ks #[.string L] h (fun M C=>∃ (q:Bool) (r e:ByteArray) (s:Bool),M= .tuple #[.agg #[.bool q,.string r,.string e],.bool s]/\Br (!s) (K (.tuple #[.agg #[.bool false,.slice none 0 0,.bool false,.slice none 0 0],.bool false]) C)
 (FCall P Hr #[.string r] C (fun N D=>∃ (f:Bool) (g:OA) (i j:Nat),N= .agg #[.bool f,.slice g i j]/\∃ (k:LP),(Br q (FCall P Kr #[.agg #[.bool f,.slice g i j]] D (fun O Q=>∃ (t:Bool) (u:OA) (v w:Nat),O= .agg #[.bool t,.slice u v w]/\k [.bool t,.slice u v w,.bool false,.slice none 0 0] Q))
 (k [.bool f,.slice g i j,.bool false,.slice none 0 0] D))/\
 ∀ a b c d F G H J p,k [.bool a,.slice b c d,.bool F,.slice G H J] p->Br (C34 e==C34 ({ data:=#[] }:ByteArray)) (K (.tuple #[.agg #[.bool a,.slice b c d,.bool F,.slice G H J],.bool true]) p)
 (FCall P Hr #[.string e] p (fun R S=>∃ (l:Bool) (m:OA) (n o:Nat),R= .agg #[.bool l,.slice m n o]/\FCall P Rs #[.agg #[.bool a,.slice b c d],.agg #[.bool l,.slice m n o]] S (fun T V=>∃ (x:Bool) (y:OA) (z A:Nat),T= .agg #[.bool x,.slice y z A]/\FCall P V7 #[.agg #[.bool x,.slice y z A]] V (fun W E=>∃ (B:Bool),W= .bool B/\Br (!B) (K (.tuple #[.agg #[.bool false,.slice none 0 0,.bool false,.slice none 0 0],.bool false]) E)
 (K (.tuple #[.agg #[.bool a,.slice b c d,.bool l,.slice m n o],.bool true]) E))))))))
theorem B3i a(hvc:B9i prog a h K):FCall prog A2y #[.string a] h K:=
 C8 bod func83 [.cell 2 106,.tmp 3] { cuts:=[(7,⟨[],[(6,4)],[.bool false,.slice none 0 0,.bool false,.slice none 0 0],⟨[19,20,21,22,23,24],[6]⟩⟩)] } 42 [2,4,6] [113,114,115,116,145] [] (by kernel_rfl) hvc
def B53(P:Program)(g:ByteArray)(h:Heap)(K:VP):Prop:=
 FCall P Fy #[.string g] h (fun C x=>∃ (z:Int) (A:Int) (i:Bool),C= .tuple #[.agg #[I z,I A],.bool i]/\Br i (K (.bool true) x)
 (FCall P Ks #[.string g] x (fun D b=>∃ (B:Bool) (j c:ByteArray) (a:Bool),D= .tuple #[.agg #[.bool B,.string j,.string c],.bool a]/\Br (!a) (K (.bool a) b)
 (Br (C34 c==C34 ({ data:=#[] }:ByteArray)) (K (.bool a) b)
 (FCall P Hr #[.string j] b (fun E d=>∃ (k:Bool) (l:OA) (m n:Nat),E= .agg #[.bool k,.slice l m n]/\Heap.le b d/\FCall P Hr #[.string c] d (fun F e=>∃ (o:Bool) (p:OA) (q r:Nat),F= .agg #[.bool o,.slice p q r]/\Heap.le d e/\FCall P Rs #[.agg #[.bool k,.slice l m n],.agg #[.bool o,.slice p q r]] e (fun G f=>∃ (s:Bool) (t:OA) (u v:Nat),G= .agg #[.bool s,.slice t u v]/\Heap.le e f/\FCall P V7 #[.agg #[.bool s,.slice t u v]] f (fun H y=>∃ (w:Bool),H= .bool w/\Heap.le f y/\K (.bool w) y)))))))))
theorem B0d a(hvc:B53 prog a h K):FCall prog Py #[.string a] h K:=
 C8 bod func46 [.tmp 2] { orders:=[(7,([0,1,3,4,2,5,6,7,8],[]))] } 34 [3,5] [112,113,114,115,116] [] (by kernel_rfl) hvc
def A56(P:Program)(b:Int)(h:Heap)(K:VP):Prop:=
 FCall P Gi #[I b,I 10] h (fun c d=>∃ (a:ByteArray),c= .string a/\K (.string a) d)
theorem A3k a(hvc:A56 prog a h K):FCall prog Ve #[I a] h K:=
 C8 bod func148 [.tmp 2] an0 5 [] [156] [] (by kernel_rfl) hvc
def B9h(P:Program)(a:ByteArray)(h:Heap)(K:VP):Prop:=
 Br (C34 a==C34 ({ data:=#[48] }:ByteArray)) (K (I 0) h)
 (FCall P Py #[.string a] h (fun e b=>∃ (c:Bool),e= .bool c/\Br (!c) (K (I 0) b)
 (∃ (d:UInt8),(0<=(0:Int)/\(a)[((0:Int)).toNat]? = some d)/\Br (((d.toNat:Nat):Int)==(45:Int)) (K (I (-1:Int)) b)
 (K (I 1) b))))
theorem B3h a(hvc:B9h prog a h K):FCall prog A2x #[.string a] h K:=
 C8 bod func58 [.tmp 2] an0 15 [] [46] [] (by kernel_rfl) hvc
def C2l(P:Program)(o:Bool)(p:OA)(q r:Nat)(a:Bool)(b:OA)(c d:Nat)(h:Heap)(K:VP):Prop:=
 FCall P G0 #[.agg #[.bool a,.slice b c d]] h (fun l k=>∃ (e:Bool),l= .bool e/\Br e (FCall P Ru #[I 1] k (fun m n=>∃ (f:Bool) (g:OA) (i j:Nat),m= .agg #[.bool f,.slice g i j]/\K (.agg #[.bool f,.slice g i j]) n))
 (K (.agg #[.bool a,.slice b c d]) k))
theorem B7h a b c d e f g i(hvc:C2l prog a b c d e f g i h K):FCall prog Vf #[.agg #[.bool a,.slice b c d,.bool e,.slice f g i]] h K:=
 C8 bod func84 [.cell 2 102] an0 9 [1,2] [138,139] [] (by kernel_rfl) hvc
def B0k(P:Program)(a:Bool)(b:OA)(c d:Nat)(e:Bool)(f:OA)(g i:Nat)(h:Heap)(K:VP):Prop:=
 FCall P G0 #[.agg #[.bool e,.slice f g i]] h (fun D B=>∃ (j:Bool),D= .bool j/\Br j (FCall P Xi #[.agg #[.bool a,.slice b c d]] B (fun E C=>∃ (k:Int) (l:Bool),E= .tuple #[I k,.bool l]/\Br l (FCall P Ve #[I k] C (fun F G=>∃ (m:ByteArray),F= .string m/\K (.string m) G))
 (FCall P Rp #[.agg #[.bool a,.slice b c d]] C (fun H J=>∃ (n:ByteArray),H= .string n/\K (.string n) J))))
 (FCall P Fx #[.agg #[.bool a,.slice b c d],.slice none 0 0] B (fun L M=>∃ (o:OA) (p q:Nat),L= .slice o p q/\wpH P (Instr.buildSlice 199 1 #[(0,Y (47:Int))]) (fun N O=>∃ (r:OA) (s t:Nat),N= .slice r s t/\wpH P (Builtin.append_ #[199,199] 199 #[.slice o p q,.slice r s t]) (fun Q R=>∃ (u:OA) (v w:Nat),Q= .slice u v w/\FCall P Fx #[.agg #[.bool e,.slice f g i],.slice u v w] R (fun S T=>∃ (x:OA) (y z:Nat),S= .slice x y z/\wpH P (convert 199 9 (.slice x y z)) (fun V W=>∃ (A:ByteArray),V= .string A/\K (.string A) W) T)) O) M)))
theorem A6l a b c d e f g i(hvc:B0k prog a b c d e f g i h K):FCall prog Rv #[.agg #[.bool a,.slice b c d,.bool e,.slice f g i]] h K:=
 C8 bod func73 [.tmp 2] an0 31 [1] [138,147,148,149,150] [] (by kernel_rfl) hvc
def B9k(P:Program)(b:Bool)(c:OA)(d e:Nat)(i:Bool)(j:OA)(k l:Nat)(h:Heap)(K:VP):Prop:=
 FCall P Rq #[.agg #[.bool b,.slice c d e]] h (fun f g=>∃ a,f=I a/\K (I a) g)
theorem B3j a b c d e f g i(hvc:B9k prog a b c d e f g i h K):FCall prog A2z #[.agg #[.bool a,.slice b c d,.bool e,.slice f g i]] h K:=
 C8 bod func121 [.tmp 2] an0 6 [1] [184] [] (by kernel_rfl) hvc
def B0m(P:Program)(b:Bool)(c:OA)(d e:Nat)(i:Bool)(j:OA)(k l:Nat)(h:Heap)(K:VP):Prop:=
 FCall P G0 #[.agg #[.bool b,.slice c d e]] h (fun f g=>∃ (a:Bool),f= .bool a/\K (.bool a) g)
theorem A6n a b c d e f g i(hvc:B0m prog a b c d e f g i h K):FCall prog Ga #[.agg #[.bool a,.slice b c d,.bool e,.slice f g i]] h K:=
 C8 bod func106 [.tmp 2] an0 6 [1] [138] [] (by kernel_rfl) hvc
def B57(P:Program)(d:Bool)(e:OA)(f g:Nat)(i:Bool)(j:OA)(k l:Nat)(h:Heap)(K:VP):Prop:=
 FCall P G0 #[.agg #[.bool i,.slice j k l]] h (fun m c=>∃ (a:Bool),m= .bool a/\Br a (FCall P V7 #[.agg #[.bool d,.slice e f g]] c (fun n o=>∃ (b:Bool),n= .bool b/\K (.bool b) o))
 (K (.bool false) c))
theorem B0n a b c d e f g i(hvc:B57 prog a b c d e f g i h K):FCall prog Xm #[.agg #[.bool a,.slice b c d,.bool e,.slice f g i]] h K:=
 C8 bod func105 [.tmp 2] an0 11 [1] [116,138] [] (by kernel_rfl) hvc
def C33(P:Program)(f:Bool)(g:OA)(i j:Nat)(k:Bool)(l:OA)(m n:Nat)(h:Heap)(K:VP):Prop:=
 FCall P Kr #[.agg #[.bool f,.slice g i j]] h (fun o e=>∃ (a:Bool) (b:OA) (c d:Nat),o= .agg #[.bool a,.slice b c d]/\Heap.le h e/\K (.agg #[.bool a,.slice b c d,.bool k,.slice l m n]) e)
def C2j(P:Program)(a:Bool)(b:OA)(c d:Nat)(t:Bool)(u:OA)(v w:Nat)(e:Bool)(f:OA)(g i:Nat)(x:Bool)(y:OA)(z A:Nat)(h:Heap)(K:VP):Prop:=
 ∃ (k:LP),(FCall P G0 #[.agg #[.bool a,.slice b c d]] h (fun d3 c8=>∃ (B:Bool),d3= .bool B/\Br B (k [.bool true] c8)
 (FCall P G0 #[.agg #[.bool e,.slice f g i]] c8 (fun d4 d5=>∃ (C:Bool),d4= .bool C/\k [.bool C] d5))))/\
 ∀ d1 s,k [.bool d1] s->Br d1 (K (.agg #[.bool false,.slice none 0 0,.bool false,.slice none 0 0]) s)
 (∃ (l:LP),(FCall P G0 #[.agg #[.bool t,.slice u v w]] s (fun d6 c9=>∃ (D:Bool),d6= .bool D/\Br D (FCall P G0 #[.agg #[.bool x,.slice y z A]] c9 (fun d7 d8=>∃ (E:Bool),d7= .bool E/\l [.bool E] d8))
 (l [.bool false] c9)))/\
 ∀ d2 j,l [.bool d2] j->Br d2 (FCall P Om #[.agg #[.bool a,.slice b c d],.agg #[.bool e,.slice f g i]] j (fun d9 e0=>∃ (F:Bool) (G:OA) (H J:Nat),d9= .agg #[.bool F,.slice G H J]/\K (.agg #[.bool F,.slice G H J,.bool false,.slice none 0 0]) e0))
 (FCall P Vf #[.agg #[.bool e,.slice f g i,.bool x,.slice y z A]] j (fun e1 m=>∃ (L:Bool) (M:OA) (N O:Nat),e1= .agg #[.bool L,.slice M N O]/\Heap.le j m/\FCall P Kt #[.agg #[.bool a,.slice b c d],.agg #[.bool L,.slice M N O]] m (fun e2 n=>∃ (Q:Bool) (R:OA) (S T:Nat) (V:Bool) (W:OA) (X Z:Nat),e2= .tuple #[.agg #[.bool Q,.slice R S T],.agg #[.bool V,.slice W X Z]]/\Heap.le m n/\FCall P Vf #[.agg #[.bool a,.slice b c d,.bool t,.slice u v w]] n (fun e3 o=>∃ (a0:Bool) (a1:OA) (a2 a3:Nat),e3= .agg #[.bool a0,.slice a1 a2 a3]/\Heap.le n o/\FCall P Kt #[.agg #[.bool e,.slice f g i],.agg #[.bool a0,.slice a1 a2 a3]] o (fun e4 p=>∃ (a4:Bool) (a5:OA) (a6 a7:Nat) (a8:Bool) (a9:OA) (b0 b1:Nat),e4= .tuple #[.agg #[.bool a4,.slice a5 a6 a7],.agg #[.bool a8,.slice a9 b0 b1]]/\Heap.le o p/\FCall P Om #[.agg #[.bool Q,.slice R S T],.agg #[.bool a4,.slice a5 a6 a7]] p (fun e5 q=>∃ (b2:Bool) (b3:OA) (b4 b5:Nat),e5= .agg #[.bool b2,.slice b3 b4 b5]/\Heap.le p q/\FCall P Om #[.agg #[.bool a8,.slice a9 b0 b1],.agg #[.bool V,.slice W X Z]] q (fun e6 r=>∃ (b6:Bool) (b7:OA) (b8 b9:Nat),e6= .agg #[.bool b6,.slice b7 b8 b9]/\Heap.le q r/\FCall P Bk #[.agg #[.bool b2,.slice b3 b4 b5],.agg #[.bool b6,.slice b7 b8 b9]] r (fun e7 d0=>∃ (c0:Bool) (c1:OA) (c2 c3:Nat) (c4:Bool) (c5:OA) (c6 c7:Nat),e7= .agg #[.bool c0,.slice c1 c2 c3,.bool c4,.slice c5 c6 c7]/\Heap.le r d0/\K (.agg #[.bool c0,.slice c1 c2 c3,.bool c4,.slice c5 c6 c7]) d0)))))))))
theorem B7f a b c d e f g i j k l m n o p q(hvc:C2j prog a b c d e f g i j k l m n o p q h K):FCall prog A4n #[.agg #[.bool a,.slice b c d,.bool e,.slice f g i],.agg #[.bool j,.slice k l m,.bool n,.slice o p q]] h K:=
 C8 bod func81 [.cell 4 106] ⟨[],[(2,⟨[16],[],[.bool false],⟨(Lrg 9 8),[]⟩⟩),(4,⟨[25],[],[.bool false],⟨(Lrg 18 8),[]⟩⟩)],[(5,([0,1,2,8,9,3,4,5,6,7,10,11],[])),(6,([0,1,2,8,9,3,4,5,6,7,10,11],[])),(7,([0,1,3,4,2,5,6,7],[]))],[],[]⟩ 55 [2,3,4,5,6,7,8] [84,138,154,158,159] [] (by kernel_rfl) hvc
def A57(P:Program)(a:Bool)(b:OA)(c d:Nat)(l:Bool)(m:OA)(n o:Nat)(h:Heap)(K:VP):Prop:=
 FCall P Rq #[.agg #[.bool a,.slice b c d]] h (fun a2 e=>∃ k,a2=I k/\Br (k==(0:Int)) (K (.agg #[.bool false,.slice none 0 0,.bool false,.slice none 0 0]) e)
 (Br (k==(-1:Int)) (FCall P Vf #[.agg #[.bool a,.slice b c d,.bool l,.slice m n o]] e (fun a3 f=>∃ (p:Bool) (q:OA) (r s:Nat),a3= .agg #[.bool p,.slice q r s]/\Heap.le e f/\FCall P Kr #[.agg #[.bool p,.slice q r s]] f (fun a4 g=>∃ (t:Bool) (u:OA) (v w:Nat),a4= .agg #[.bool t,.slice u v w]/\Heap.le f g/\FCall P Kr #[.agg #[.bool a,.slice b c d]] g (fun a5 i=>∃ (x:Bool) (y:OA) (z A:Nat),a5= .agg #[.bool x,.slice y z A]/\Heap.le g i/\FCall P Bk #[.agg #[.bool t,.slice u v w],.agg #[.bool x,.slice y z A]] i (fun a6 a0=>∃ (B:Bool) (C:OA) (D E:Nat) (F:Bool) (G:OA) (H J:Nat),a6= .agg #[.bool B,.slice C D E,.bool F,.slice G H J]/\Heap.le i a0/\K (.agg #[.bool B,.slice C D E,.bool F,.slice G H J]) a0)))))
 (FCall P Vf #[.agg #[.bool a,.slice b c d,.bool l,.slice m n o]] e (fun a7 j=>∃ (L:Bool) (M:OA) (N O:Nat),a7= .agg #[.bool L,.slice M N O]/\Heap.le e j/\FCall P Bk #[.agg #[.bool L,.slice M N O],.agg #[.bool a,.slice b c d]] j (fun a8 a1=>∃ (Q:Bool) (R:OA) (S T:Nat) (V:Bool) (W:OA) (X Z:Nat),a8= .agg #[.bool Q,.slice R S T,.bool V,.slice W X Z]/\Heap.le j a1/\K (.agg #[.bool Q,.slice R S T,.bool V,.slice W X Z]) a1)))))
theorem A3m a b c d e f g i(hvc:A57 prog a b c d e f g i h K):FCall prog Nj #[.agg #[.bool a,.slice b c d,.bool e,.slice f g i]] h K:=
 C8 bod func146 [.cell 2 106] { orders:=[(5,([0,3,4,1,2,5,6,7],[])),(6,([0,2,3,1,4,5],[]))] } 23 [1,2] [84,145,159,184] [] (by kernel_rfl) hvc
def C2k(P:Program)(t:Bool)(u:OA)(v w:Nat)(x:Bool)(y:OA)(z A:Nat)(B:Bool)(C:OA)(D E:Nat)(F:Bool)(G:OA)(H J:Nat)(h:Heap)(K:VP):Prop:=
 FCall P Nj #[.agg #[.bool B,.slice C D E,.bool F,.slice G H J]] h (fun L a=>∃ (b:Bool) (c:OA) (d e:Nat) (f:Bool) (g:OA) (i j:Nat),L= .agg #[.bool b,.slice c d e,.bool f,.slice g i j]/\Heap.le h a/\FCall P A4n #[.agg #[.bool t,.slice u v w,.bool x,.slice y z A],.agg #[.bool b,.slice c d e,.bool f,.slice g i j]] a (fun M s=>∃ (k:Bool) (l:OA) (m n:Nat) (o:Bool) (p:OA) (q r:Nat),M= .agg #[.bool k,.slice l m n,.bool o,.slice p q r]/\Heap.le a s/\K (.agg #[.bool k,.slice l m n,.bool o,.slice p q r]) s))
theorem B7g a b c d e f g i j k l m n o p q(hvc:C2k prog a b c d e f g i j k l m n o p q h K):FCall prog A4o #[.agg #[.bool a,.slice b c d,.bool e,.slice f g i],.agg #[.bool j,.slice k l m,.bool n,.slice o p q]] h K:=
 C8 bod func72 [.cell 4 106] an0 9 [2,3,4] [81,146] [] (by kernel_rfl) hvc
end Go.Proofs.YtajkakhfcokljaaGreatDoor
