/-
  Texts of this proof, merged by a program of ours.
-/
import Derived.Test.YthilnfgnpdeofaaGreatDoorProg
import Derived.Test.YthilnfgnpdeofaaGreatDoorG05
import Derived.Test.YthilnfgnpdeofaaGreatDoorG06
import Derived.Test.YthilnfgnpdeofaaGreatDoorG07
namespace Go.Proofs.YthilnfgnpdeofaaGreatDoor
open Go
set_option maxRecDepth 100000
set_option linter.unusedVariables false
variable {h:Heap} {K:Value->Heap->Prop}
abbrev Jo:Nat:=162
abbrev U6:Nat:=195
abbrev Eu:Nat:=161
abbrev B2y:Nat:=120
abbrev T9:Nat:=193
abbrev A5e:Nat:=168
abbrev A7g:Nat:=121
abbrev Nq:Nat:=75
abbrev L8:Nat:=70
abbrev Ak:Nat:=139
abbrev Jp:Nat:=159
abbrev A05:Nat:=112
abbrev B52:Nat:=122
abbrev Ul:Nat:=109
abbrev Sh:Nat:=154
abbrev B6s:Nat:=62
abbrev B6v:Nat:=126
abbrev Si:Nat:=124
abbrev Jq:Nat:=95
abbrev B53:Nat:=272
abbrev A5f:Nat:=97
abbrev B6w:Nat:=117
abbrev B6u:Nat:=119
abbrev A1g:Nat:=103
abbrev Lc:Nat:=157
abbrev Xd:Nat:=98
abbrev B6p:Nat:=207
def B0i(P:Program)(p:ByteArray)(h:Heap)(K:Value->Heap->Prop):Prop:=
 FCall P Fc #[.string p,.string ({ data:=#[45] }:ByteArray)] h (fun q r=>∃ (j:ByteArray) (b:Bool),q= .tuple #[.string j,.bool b]/\FCall P U6 #[.string j] r (fun s f=>∃ (a d:ByteArray),s= .tuple #[.string a,.string d]/\Br (ByteArray.toList a==ByteArray.toList ({ data:=#[48] }:ByteArray)) (Br (!b) (K (.tuple #[.agg #[.bool b,.string a,.string ({ data:=#[] }:ByteArray)],.bool (ByteArray.toList d==ByteArray.toList ({ data:=#[] }:ByteArray))]) f)
 (K (.tuple #[.agg #[.bool b,.string a,.string ({ data:=#[] }:ByteArray)],.bool false]) f))
 (∃ (i:List Value->Heap->Prop),(Br (ByteArray.toList a==ByteArray.toList ({ data:=#[] }:ByteArray)) (i [.bool true] f)
 (∃ (k:UInt8),(0<=(0:Int)/\(a)[((0:Int)).toNat]? = some k)/\i [.bool (((k.toNat:Nat):Int)==(48:Int))] f))/\
 ∀ (l:Bool),∀ e,i [.bool l] e->Br l (K (.tuple #[.agg #[.bool b,.string a,.string ({ data:=#[] }:ByteArray)],.bool false]) e)
 (Br (ByteArray.toList d==ByteArray.toList ({ data:=#[] }:ByteArray)) (K (.tuple #[.agg #[.bool b,.string a,.string ({ data:=#[] }:ByteArray)],.bool true]) e)
 (∃ (m:UInt8),(0<=(0:Int)/\(d)[((0:Int)).toNat]? = some m)/\Br (((m.toNat:Nat):Int) != (47:Int)) (K (.tuple #[.agg #[.bool b,.string a,.string ({ data:=#[] }:ByteArray)],.bool false]) e)
 ((0<=(1:Int)/\(1:Int)<=(((d).size:Nat):Int))/\FCall P U6 #[.string ((d).extract (((1:Int)).toNat) ((d).size))] e (fun t g=>∃ (c n:ByteArray),t= .tuple #[.string c,.string n]/\Br (ByteArray.toList n==ByteArray.toList ({ data:=#[] }:ByteArray)) (Br (!(ByteArray.toList c==ByteArray.toList ({ data:=#[] }:ByteArray))) (∃ (o:UInt8),(0<=(0:Int)/\(c)[((0:Int)).toNat]? = some o)/\Br (((o.toNat:Nat):Int) != (48:Int)) (K (.tuple #[.agg #[.bool b,.string a,.string c],.bool (!(ByteArray.toList c==ByteArray.toList ({ data:=#[49] }:ByteArray)))]) g)
 (K (.tuple #[.agg #[.bool b,.string a,.string c],.bool false]) g))
 (K (.tuple #[.agg #[.bool b,.string a,.string c],.bool false]) g))
 (K (.tuple #[.agg #[.bool b,.string a,.string c],.bool false]) g))))))))
theorem A6n(a:ByteArray)(hvc:B0i Tryz.prog a h K):FCall Tryz.prog Jo #[.string a] h K:=
 B8 Tryz.func162 (c:=C2 Tryz.f162) (by kernel_rfl) (rs:=[.cell 2 197,.tmp 3]) (by kernel_rfl) (fa:=⟨[],[(8,⟨[31],[],[.bool false],⟨(Lrg 31 10),[]⟩⟩)],[(14,((Lrg 0 21),[[],[],[1],[1,2],[1,2,3],[1,2,3,4],[1,2,3,4,5],[1,2,3,4,5,6],[1,2,3,4,5,6,7],(Lrg 1 8),(Lrg 1 9),(Lrg 1 10),(Lrg 1 11),(Lrg 1 12),(Lrg 1 13),(Lrg 1 14),(Lrg 1 15),(Lrg 1 16),(Lrg 1 17),(Lrg 0 15),(Lrg 0 20)]))],[],[]⟩)
  (cfg:=⟨77,[2,4],none,[194,195],[],false⟩) (args:=[.string a]) (by kernel_rfl) (B0 Tryz.call194 (B0 Tryz.call195 Bodies.nil)) (Eq.mp (by kernel_rfl) hvc)
def Sr(P:Program)(b:ByteArray)(h:Heap)(K:Value->Heap->Prop):Prop:=
 ∃ (e:List Value->Heap->Prop),(∃ (f:List Value->Heap->Prop) (g:List Value->Heap->Nat),f [I 0] h/\
 ∀ (a:Int),∀ d,f [I a] d->Br (decide (a<((ByteArray.size b:Nat):Int))) (∃ (i:UInt8),(0<=a/\(b)[a.toNat]? = some i)/\Br (decide ((48:Int)<=((i.toNat:Nat):Int))) (∃ (j:UInt8),(0<=a/\(b)[a.toNat]? = some j)/\Br (decide (((j.toNat:Nat):Int)<=(57:Int))) (f [I (B4 (a+1))] d/\g [I (B4 (a+1))] d<g [I a] d)
 (e [I a] d))
 (e [I a] d))
 (e [I a] d))/\
 ∀ (c:Int),∀ k,e [I c] k->(0<=c/\c<=(((b).size:Nat):Int))/\(0<=c/\c<=(((b).size:Nat):Int))/\K (.tuple #[.string ((b).extract 0 (c.toNat)),.string ((b).extract (c.toNat) ((b).size))]) k
theorem Vf(a:ByteArray)(hvc:Sr Tryz.prog a h K):FCall Tryz.prog U6 #[.string a] h K:=
 B8 Tryz.func195 (c:=C2 Tryz.f195) (by kernel_rfl) (rs:=[.tmp 2,.tmp 3]) (by kernel_rfl) (fa:=⟨[(2,⟨[4],[],[.int .i64 0],⟨(Lrg 4 19),[]⟩⟩)],[(4,⟨[4],[],[.int .i64 0],⟨(Lrg 4 19),[]⟩⟩)],[(4,((Lrg 0 8),[[],[],[0,1],[],[],[3,4],[0,1,2],[0,1,2,3,4,5,6]]))],[],[]⟩)
  (cfg:=⟨29,[],none,[],[],false⟩) (args:=[.string a]) (by kernel_rfl) Bodies.nil (Eq.mp (by kernel_rfl) hvc)
def Sq(P:Program)(n:ByteArray)(h:Heap)(K:Value->Heap->Prop):Prop:=
 Br (decide (((ByteArray.size n:Nat):Int)>(20:Int))) (K (.tuple #[.agg #[I 0,I 0],.bool false]) h)
 (FCall P Jo #[.string n] h (fun z k=>∃ (o:Bool) (d a:ByteArray) (p:Bool),z= .tuple #[.agg #[.bool o,.string d,.string a],.bool p]/\∃ (b:List Value->Heap->Prop),(Br (!p) (b [.bool true] k)
 (Br (decide (((ByteArray.size d:Nat):Int)>(9:Int))) (b [.bool true] k)
 (b [.bool (decide (((ByteArray.size a:Nat):Int)>(9:Int)))] k)))/\
 ∀ (q:Bool),∀ l,b [.bool q] l->Br q (K (.tuple #[.agg #[I 0,I 0],.bool false]) l)
 (FCall P T9 #[.string d] l (fun A u=>∃ (c:Int),A=I c/\∃ (e:List Value->Heap->Prop),(Br (!(ByteArray.toList a==ByteArray.toList ({ data:=#[] }:ByteArray))) (FCall P T9 #[.string a] u (fun B C=>∃ (f:Int),B=I f/\FCall P A5e #[I c,I f] C (fun D v=>∃ (r:Int),D=I r/\Br (r != (1:Int)) (K (.tuple #[.agg #[I 0,I 0],.bool false]) v)
 (e [I 0,I 0,I c,I f] v))))
 (e [I 0,I 0,I c,I 1] u))/\
 ∀ (x:Int) (y:Int) (g:Int) (i:Int),∀ m,e [I x,I y,I g,I i] m->∃ (j:List Value->Heap->Prop),(Br o (j [I (B4 (0-g)),I i] m)
 (j [I g,I i] m))/\
 ∀ (s:Int) (t:Int),∀ w,j [I s,I t] w->K (.tuple #[.agg #[I s,I t],.bool true]) w))))
theorem Ve(a:ByteArray)(hvc:Sq Tryz.prog a h K):FCall Tryz.prog Eu #[.string a] h K:=
 B8 Tryz.func161 (c:=C2 Tryz.f161) (by kernel_rfl) (rs:=[.cell 2 151,.tmp 3]) (by kernel_rfl) (fa:=⟨[],[(5,⟨[29],[],[.bool false],⟨(Lrg 16 14),[]⟩⟩),(11,⟨[],[(2,2),(6,2)],[.int .i64 0,.int .i64 0,.int .i64 0,.int .i64 0],⟨([3]++Lrg 35 14),[2,6]⟩⟩),(13,⟨[],[(6,2)],[.int .i64 0,.int .i64 0],⟨[49,50,51,52,53,54],[6]⟩⟩)],[],[],[]⟩)
  (cfg:=⟨56,[2,4,6],none,[162,168,193],[],false⟩) (args:=[.string a]) (by kernel_rfl) (B0 Tryz.call162 (B0 Tryz.call168 (B0 Tryz.call193 Bodies.nil))) (Eq.mp (by kernel_rfl) hvc)
def Mm(P:Program)(f:ByteArray)(h:Heap)(K:Value->Heap->Prop):Prop:=
 ∃ (d:List Value->Heap->Prop) (g:List Value->Heap->Nat),d [I 0,I 0] h/\
 ∀ (b:Int) (a:Int),∀ c,d [I b,I a] c->Br (decide (a<((ByteArray.size f:Nat):Int))) (∃ (e:UInt8),(0<=a/\(f)[a.toNat]? = some e)/\d [I (B4 ((B4 ((10:Int)*b))+(B4 (wu8 (((e.toNat:Nat):Int)-48))))),I (B4 (a+1))] c/\g [I (B4 ((B4 ((10:Int)*b))+(B4 (wu8 (((e.toNat:Nat):Int)-48))))),I (B4 (a+1))] c<g [I b,I a] c)
 (K (I b) c)
theorem Qn(a:ByteArray)(hvc:Mm Tryz.prog a h K):FCall Tryz.prog T9 #[.string a] h K:=
 B8 Tryz.func193 (c:=C2 Tryz.f193) (by kernel_rfl) (rs:=[.tmp 2]) (by kernel_rfl) (fa:=⟨[(3,⟨[3,7],[],[.int .i64 0,.int .i64 0],⟨([3,4]++Lrg 7 12),[]⟩⟩)],[],[],[],[]⟩)
  (cfg:=⟨20,[],none,[],[],false⟩) (args:=[.string a]) (by kernel_rfl) Bodies.nil (Eq.mp (by kernel_rfl) hvc)
def B7h(P:Program)(f:Int)(g:Int)(h:Heap)(K:Value->Heap->Prop):Prop:=
 ∃ (d:List Value->Heap->Prop) (e:List Value->Heap->Nat),d [I f,I g] h/\
 ∀ (b:Int) (a:Int),∀ c,d [I b,I a] c->Br (a != (0:Int)) (Br (decide (a=0)) False
 (d [I a,I (Int.tmod b a)] c/\e [I a,I (Int.tmod b a)] c<e [I b,I a] c))
 (K (I b) c)
theorem B2i(a:Int)(b:Int)(hvc:B7h Tryz.prog a b h K):FCall Tryz.prog A5e #[I a,I b] h K:=
 B8 Tryz.func168 (c:=C2 Tryz.f168) (by kernel_rfl) (rs:=[.tmp 4]) (by kernel_rfl) (fa:=⟨[(1,⟨[0,1],[],[.int .i64 0,.int .i64 0],⟨[0,1,5,6,7,8,9,10],[]⟩⟩)],[],[(2,([0,1,2,3,4,5],[[],[],[],[1,2],[0,1],[0,1,2,3,4]]))],[],[]⟩)
  (cfg:=⟨12,[],none,[],[],false⟩) (args:=[I a,I b]) (by kernel_rfl) Bodies.nil (Eq.mp (by kernel_rfl) hvc)
def B0j(P:Program)(e:Int)(h:Heap)(K:Value->Heap->Prop):Prop:=
 FCall P Ly #[I e] h (fun f g=>∃ (a:Bool) (b:OA) (c d:Nat),f= .agg #[.bool a,.slice b c d]/\K (.agg #[.bool a,.slice b c d,.bool false,.slice none 0 0]) g)
theorem A6o(a:Int)(hvc:B0j Tryz.prog a h K):FCall Tryz.prog Nq #[I a] h K:=
 B8 Tryz.func75 (c:=C2 Tryz.f75) (by kernel_rfl) (rs:=[.cell 2 101]) (by kernel_rfl) (fa:=⟨[],[],[],[],[]⟩)
  (cfg:=⟨6,[2],none,[100],[],false⟩) (args:=[I a]) (by kernel_rfl) (B0 Tryz.call100 Bodies.nil) (Eq.mp (by kernel_rfl) hvc)
def Yb(P:Program)(r:Bool)(s:OA)(t u:Nat)(j:Bool)(k:OA)(l m:Nat)(h:Heap)(K:Value->Heap->Prop):Prop:=
 ∃ (v:List Value->Heap->Prop),(FCall P G0 #[.agg #[.bool j,.slice k l m]] h (fun c4 b9=>∃ (C:Bool),c4= .bool C/\Br C (v [.bool true] b9)
 (FCall P G0 #[.agg #[.bool r,.slice s t u]] b9 (fun c5 c6=>∃ (D:Bool),c5= .bool D/\v [.bool D] c6))))/\
 ∀ (E:Bool),∀ B,v [.bool E] B->Br E (K (.agg #[.bool false,.slice none 0 0,.bool false,.slice none 0 0]) B)
 (∃ (w:List Value->Heap->Prop),(FCall P Ug #[.agg #[.bool j,.slice k l m]] B (fun c7 x=>∃ (F:Int),c7=I F/\Br (decide (F<(0:Int))) (FCall P Jn #[.agg #[.bool r,.slice s t u]] x (fun c8 y=>∃ (G:Bool) (H:OA) (J L:Nat),c8= .agg #[.bool G,.slice H J L]/\Heap.le x y/\FCall P Jn #[.agg #[.bool j,.slice k l m]] y (fun c9 c0=>∃ (M:Bool) (N:OA) (O Q:Nat),c9= .agg #[.bool M,.slice N O Q]/\Heap.le y c0/\w [.bool G,.slice H J L,.bool M,.slice N O Q] c0)))
 (w [.bool r,.slice s t u,.bool j,.slice k l m] x)))/\
 ∀ (a:Bool) (b:OA) (c d:Nat) (e:Bool) (f:OA) (g i:Nat),∀ c3,w [.bool a,.slice b c d,.bool e,.slice f g i] c3->FCall P Y4 #[.agg #[.bool e,.slice f g i]] c3 (fun d0 c1=>∃ (R:Bool),d0= .bool R/\Br R (K (.agg #[.bool a,.slice b c d,.bool false,.slice none 0 0]) c1)
 (FCall P Pi #[.agg #[.bool a,.slice b c d],.agg #[.bool e,.slice f g i]] c1 (fun d1 d2=>∃ (n:Bool) (o:OA) (p q:Nat),d1= .agg #[.bool n,.slice o p q]/\FCall P Y4 #[.agg #[.bool n,.slice o p q]] d2 (fun d3 z=>∃ (S:Bool),d3= .bool S/\Br (!S) (FCall P Jm #[.agg #[.bool a,.slice b c d],.agg #[.bool n,.slice o p q]] z (fun d4 A=>∃ (T:Bool) (V:OA) (W X:Nat),d4= .agg #[.bool T,.slice V W X]/\Heap.le z A/\FCall P Jm #[.agg #[.bool e,.slice f g i],.agg #[.bool n,.slice o p q]] A (fun d5 c2=>∃ (Z:Bool) (a0:OA) (a1 a2:Nat),d5= .agg #[.bool Z,.slice a0 a1 a2]/\Heap.le A c2/\FCall P Ak #[.agg #[.bool T,.slice V W X],.agg #[.bool Z,.slice a0 a1 a2]] c2 (fun d6 d7=>∃ (a3:Bool) (a4:OA) (a5 a6:Nat) (a7:Bool) (a8:OA) (a9 b0:Nat),d6= .agg #[.bool a3,.slice a4 a5 a6,.bool a7,.slice a8 a9 b0]/\K (.agg #[.bool a3,.slice a4 a5 a6,.bool a7,.slice a8 a9 b0]) d7))))
 (FCall P Ak #[.agg #[.bool a,.slice b c d],.agg #[.bool e,.slice f g i]] z (fun d8 d9=>∃ (b1:Bool) (b2:OA) (b3 b4:Nat) (b5:Bool) (b6:OA) (b7 b8:Nat),d8= .agg #[.bool b1,.slice b2 b3 b4,.bool b5,.slice b6 b7 b8]/\K (.agg #[.bool b1,.slice b2 b3 b4,.bool b5,.slice b6 b7 b8]) d9)))))))
theorem Ya(a:Bool)(b:OA)(d e:Nat)(f:Bool)(g:OA)(i j:Nat)(hvc:Yb Tryz.prog a b d e f g i j h K):FCall Tryz.prog L8 #[.agg #[.bool a,.slice b d e],.agg #[.bool f,.slice g i j]] h K:=
 B8 Tryz.func70 (c:=C2 Tryz.f70) (by kernel_rfl) (rs:=[.cell 4 101]) (by kernel_rfl) (fa:=⟨[],[(2,⟨[11],[],[.bool false],⟨[6,7,8,9,10,11],[]⟩⟩),(5,⟨[],[(2,2),(3,2)],[.bool false,.slice none 0 0,.bool false,.slice none 0 0],⟨[13,14,15,16,17,18,19],[2,3]⟩⟩)],[(4,([0,2,1,3,4,5],[[],[0],[],[0,1,2],[0,1,2,3],[0,1,2,3,4]])),(9,([0,1,3,4,2,5,6,7],[[],[],[0,1],[],[],[0,1,2,3,4],[0,1,2,3,4,5],[0,1,2,3,4,5,6]]))],[],[]⟩)
  (cfg:=⟨39,[2,3,4,5],none,[77,134,135,136,137,138,139],[],false⟩) (args:=[.agg #[.bool a,.slice b d e],.agg #[.bool f,.slice g i j]]) (by kernel_rfl) (B0 Tryz.call77 (B0 Tryz.call134 (B0 Tryz.call135 (B0 Tryz.call136 (B0 Tryz.call137 (B0 Tryz.call138 (B0 Tryz.call139 Bodies.nil))))))) (Eq.mp (by kernel_rfl) hvc)
def A6p(P:Program)(a:Bool)(b:OA)(c d:Nat)(e:Bool)(f:OA)(g i:Nat)(h:Heap)(K:Value->Heap->Prop):Prop:=
 FCall P Y4 #[.agg #[.bool e,.slice f g i]] h (fun l k=>∃ (j:Bool),l= .bool j/\Br j (K (.agg #[.bool a,.slice b c d,.bool false,.slice none 0 0]) k)
 (K (.agg #[.bool a,.slice b c d,.bool e,.slice f g i]) k))
theorem A3b(a:Bool)(b:OA)(d e:Nat)(f:Bool)(g:OA)(i j:Nat)(hvc:A6p Tryz.prog a b d e f g i j h K):FCall Tryz.prog Ak #[.agg #[.bool a,.slice b d e],.agg #[.bool f,.slice g i j]] h K:=
 B8 Tryz.func139 (c:=C2 Tryz.f139) (by kernel_rfl) (rs:=[.cell 4 101]) (by kernel_rfl) (fa:=⟨[],[],[],[],[]⟩)
  (cfg:=⟨12,[2,3,4],none,[138],[],false⟩) (args:=[.agg #[.bool a,.slice b d e],.agg #[.bool f,.slice g i j]]) (by kernel_rfl) (B0 Tryz.call138 Bodies.nil) (Eq.mp (by kernel_rfl) hvc)
def A6q(P:Program)(e:Bool)(f:OA)(g i:Nat)(a:Bool)(b:OA)(c d:Nat)(h:Heap)(K:Value->Heap->Prop):Prop:=
 FCall P Y4 #[.agg #[.bool a,.slice b c d]] h (fun A x=>∃ (o:Bool),A= .bool o/\Br o (K (.tuple #[.agg #[.bool e,.slice f g i],.agg #[.bool a,.slice b c d]]) x)
 (FCall P Pi #[.agg #[.bool e,.slice f g i],.agg #[.bool a,.slice b c d]] x (fun B y=>∃ (j:Bool) (k:OA) (l m:Nat),B= .agg #[.bool j,.slice k l m]/\FCall P Jm #[.agg #[.bool e,.slice f g i],.agg #[.bool j,.slice k l m]] y (fun C n=>∃ (p:Bool) (q:OA) (r s:Nat),C= .agg #[.bool p,.slice q r s]/\Heap.le y n/\FCall P Jm #[.agg #[.bool a,.slice b c d],.agg #[.bool j,.slice k l m]] n (fun D z=>∃ (t:Bool) (u:OA) (v w:Nat),D= .agg #[.bool t,.slice u v w]/\Heap.le n z/\K (.tuple #[.agg #[.bool p,.slice q r s],.agg #[.bool t,.slice u v w]]) z)))))
theorem A3c(a:Bool)(b:OA)(d e:Nat)(f:Bool)(g:OA)(i j:Nat)(hvc:A6q Tryz.prog a b d e f g i j h K):FCall Tryz.prog Jp #[.agg #[.bool a,.slice b d e],.agg #[.bool f,.slice g i j]] h K:=
 B8 Tryz.func159 (c:=C2 Tryz.f159) (by kernel_rfl) (rs:=[.cell 4 94,.cell 5 94]) (by kernel_rfl) (fa:=⟨[],[],[(2,([0,1,2,3],[[],[],[0],[0,1,2]])),(4,([0,1,3,4,2,5,6,7],[[],[],[0,1],[],[],[0,1,2,3,4],[0,1,2,3,4,5],[0,1,2,3,4,5,6]]))],[],[]⟩)
  (cfg:=⟨20,[2,3,4,5,6],none,[134,136,138],[],false⟩) (args:=[.agg #[.bool a,.slice b d e],.agg #[.bool f,.slice g i j]]) (by kernel_rfl) (B0 Tryz.call134 (B0 Tryz.call136 (B0 Tryz.call138 Bodies.nil))) (Eq.mp (by kernel_rfl) hvc)
def B4p(P:Program)(L:ByteArray)(h:Heap)(K:Value->Heap->Prop):Prop:=
 FCall P Jo #[.string L] h (fun M G=>∃ (q:Bool) (r e:ByteArray) (s:Bool),M= .tuple #[.agg #[.bool q,.string r,.string e],.bool s]/\Br (!s) (K (.tuple #[.agg #[.bool false,.slice none 0 0,.bool false,.slice none 0 0],.bool false]) G)
 (FCall P Gh #[.string r] G (fun N H=>∃ (f:Bool) (g:OA) (i j:Nat),N= .agg #[.bool f,.slice g i j]/\∃ (k:List Value->Heap->Prop),(Br q (FCall P Jn #[.agg #[.bool f,.slice g i j]] H (fun O Q=>∃ (t:Bool) (u:OA) (v w:Nat),O= .agg #[.bool t,.slice u v w]/\k [.bool t,.slice u v w,.bool false,.slice none 0 0] Q))
 (k [.bool f,.slice g i j,.bool false,.slice none 0 0] H))/\
 ∀ (a:Bool) (b:OA) (c d:Nat) (x:Bool) (y:OA) (z A:Nat),∀ p,k [.bool a,.slice b c d,.bool x,.slice y z A] p->Br (ByteArray.toList e==ByteArray.toList ({ data:=#[] }:ByteArray)) (K (.tuple #[.agg #[.bool a,.slice b c d,.bool x,.slice y z A],.bool true]) p)
 (FCall P Gh #[.string e] p (fun R S=>∃ (l:Bool) (m:OA) (n o:Nat),R= .agg #[.bool l,.slice m n o]/\FCall P Pi #[.agg #[.bool a,.slice b c d],.agg #[.bool l,.slice m n o]] S (fun T V=>∃ (B:Bool) (C:OA) (D E:Nat),T= .agg #[.bool B,.slice C D E]/\FCall P Y4 #[.agg #[.bool B,.slice C D E]] V (fun W J=>∃ (F:Bool),W= .bool F/\Br (!F) (K (.tuple #[.agg #[.bool false,.slice none 0 0,.bool false,.slice none 0 0],.bool false]) J)
 (K (.tuple #[.agg #[.bool a,.slice b c d,.bool l,.slice m n o],.bool true]) J))))))))
theorem A9d(a:ByteArray)(hvc:B4p Tryz.prog a h K):FCall Tryz.prog A05 #[.string a] h K:=
 B8 Tryz.func112 (c:=C2 Tryz.f112) (by kernel_rfl) (rs:=[.cell 2 101,.tmp 3]) (by kernel_rfl) (fa:=⟨[],[(7,⟨[],[(6,4)],[.bool false,.slice none 0 0,.bool false,.slice none 0 0],⟨[19,20,21,22,23,24],[6]⟩⟩)],[],[],[]⟩)
  (cfg:=⟨42,[2,4,6],none,[77,134,138,162,163],[],false⟩) (args:=[.string a]) (by kernel_rfl) (B0 Tryz.call77 (B0 Tryz.call134 (B0 Tryz.call138 (B0 Tryz.call162 (B0 Tryz.call163 Bodies.nil))))) (Eq.mp (by kernel_rfl) hvc)
def B0h(P:Program)(g:ByteArray)(h:Heap)(K:Value->Heap->Prop):Prop:=
 FCall P Eu #[.string g] h (fun C x=>∃ (z:Int) (A:Int) (i:Bool),C= .tuple #[.agg #[I z,I A],.bool i]/\Br i (K (.bool true) x)
 (FCall P Jo #[.string g] x (fun D b=>∃ (B:Bool) (j c:ByteArray) (a:Bool),D= .tuple #[.agg #[.bool B,.string j,.string c],.bool a]/\Br (!a) (K (.bool a) b)
 (Br (ByteArray.toList c==ByteArray.toList ({ data:=#[] }:ByteArray)) (K (.bool a) b)
 (FCall P Gh #[.string j] b (fun E d=>∃ (k:Bool) (l:OA) (m n:Nat),E= .agg #[.bool k,.slice l m n]/\Heap.le b d/\FCall P Gh #[.string c] d (fun F e=>∃ (o:Bool) (p:OA) (q r:Nat),F= .agg #[.bool o,.slice p q r]/\Heap.le d e/\FCall P Pi #[.agg #[.bool k,.slice l m n],.agg #[.bool o,.slice p q r]] e (fun G f=>∃ (s:Bool) (t:OA) (u v:Nat),G= .agg #[.bool s,.slice t u v]/\Heap.le e f/\FCall P Y4 #[.agg #[.bool s,.slice t u v]] f (fun H y=>∃ (w:Bool),H= .bool w/\Heap.le f y/\K (.bool w) y)))))))))
theorem A6m(a:ByteArray)(hvc:B0h Tryz.prog a h K):FCall Tryz.prog Ul #[.string a] h K:=
 B8 Tryz.func109 (c:=C2 Tryz.f109) (by kernel_rfl) (rs:=[.tmp 2]) (by kernel_rfl) (fa:=⟨[],[],[(7,([0,1,3,4,2,5,6,7,8],[[],[0],[0,1],[],[3],[0,1,2,3,4],[0,1,2,3,4,5],[0,1,2,3,4,5,6],(Lrg 0 8)]))],[],[]⟩)
  (cfg:=⟨34,[3,5],none,[134,138,161,162,163],[],false⟩) (args:=[.string a]) (by kernel_rfl) (B0 Tryz.call134 (B0 Tryz.call138 (B0 Tryz.call161 (B0 Tryz.call162 (B0 Tryz.call163 Bodies.nil))))) (Eq.mp (by kernel_rfl) hvc)
def A1x(P:Program)(b:Int)(h:Heap)(K:Value->Heap->Prop):Prop:=
 FCall P Fb #[I b,I 10] h (fun c d=>∃ (a:ByteArray),c= .string a/\K (.string a) d)
theorem A0n(a:Int)(hvc:A1x Tryz.prog a h K):FCall Tryz.prog Sh #[I a] h K:=
 B8 Tryz.func154 (c:=C2 Tryz.f154) (by kernel_rfl) (rs:=[.tmp 2]) (by kernel_rfl) (fa:=⟨[],[],[],[],[]⟩)
  (cfg:=⟨5,[],none,[169],[],false⟩) (args:=[I a]) (by kernel_rfl) (B0 Tryz.call169 Bodies.nil) (Eq.mp (by kernel_rfl) hvc)
def B7l(P:Program)(o:Bool)(p:OA)(q r:Nat)(a:Bool)(b:OA)(c d:Nat)(h:Heap)(K:Value->Heap->Prop):Prop:=
 FCall P G0 #[.agg #[.bool a,.slice b c d]] h (fun l k=>∃ (e:Bool),l= .bool e/\Br e (FCall P Ly #[I 1] k (fun m n=>∃ (f:Bool) (g:OA) (i j:Nat),m= .agg #[.bool f,.slice g i j]/\K (.agg #[.bool f,.slice g i j]) n))
 (K (.agg #[.bool a,.slice b c d]) k))
theorem B2n(a:Bool)(b:OA)(d e:Nat)(f:Bool)(g:OA)(i j:Nat)(hvc:B7l Tryz.prog a b d e f g i j h K):FCall Tryz.prog Si #[.agg #[.bool a,.slice b d e,.bool f,.slice g i j]] h K:=
 B8 Tryz.func124 (c:=C2 Tryz.f124) (by kernel_rfl) (rs:=[.cell 2 94]) (by kernel_rfl) (fa:=⟨[],[],[],[],[]⟩)
  (cfg:=⟨9,[1,2],none,[100,135],[],false⟩) (args:=[.agg #[.bool a,.slice b d e,.bool f,.slice g i j]]) (by kernel_rfl) (B0 Tryz.call100 (B0 Tryz.call135 Bodies.nil)) (Eq.mp (by kernel_rfl) hvc)
def A6t(P:Program)(a:Bool)(b:OA)(c d:Nat)(e:Bool)(f:OA)(g i:Nat)(h:Heap)(K:Value->Heap->Prop):Prop:=
 FCall P G0 #[.agg #[.bool e,.slice f g i]] h (fun D B=>∃ (j:Bool),D= .bool j/\Br j (FCall P Uh #[.agg #[.bool a,.slice b c d]] B (fun E C=>∃ (k:Int) (l:Bool),E= .tuple #[I k,.bool l]/\Br l (FCall P Sh #[I k] C (fun F G=>∃ (m:ByteArray),F= .string m/\K (.string m) G))
 (FCall P Pg #[.agg #[.bool a,.slice b c d]] C (fun H J=>∃ (n:ByteArray),H= .string n/\K (.string n) J))))
 (FCall P Et #[.agg #[.bool a,.slice b c d],.slice none 0 0] B (fun L M=>∃ (o:OA) (p q:Nat),L= .slice o p q/\wpH P (Instr.buildSlice 181 1 #[(0,Y (47:Int))]) (fun N O=>∃ (r:OA) (s t:Nat),N= .slice r s t/\wpH P (Builtin.append_ #[181,181] 181 #[.slice o p q,.slice r s t]) (fun Q R=>∃ (u:OA) (v w:Nat),Q= .slice u v w/\FCall P Et #[.agg #[.bool e,.slice f g i],.slice u v w] R (fun S T=>∃ (x:OA) (y z:Nat),S= .slice x y z/\wpH P (convert 181 9 (.slice x y z)) (fun V W=>∃ (A:ByteArray),V= .string A/\K (.string A) W) T)) O) M)))
theorem A3d(a:Bool)(b:OA)(d e:Nat)(f:Bool)(g:OA)(i j:Nat)(hvc:A6t Tryz.prog a b d e f g i j h K):FCall Tryz.prog Jq #[.agg #[.bool a,.slice b d e,.bool f,.slice g i j]] h K:=
 B8 Tryz.func95 (c:=C2 Tryz.f95) (by kernel_rfl) (rs:=[.tmp 2]) (by kernel_rfl) (fa:=⟨[],[],[],[],[]⟩)
  (cfg:=⟨31,[1],none,[135,153,154,155,156],[],false⟩) (args:=[.agg #[.bool a,.slice b d e,.bool f,.slice g i j]]) (by kernel_rfl) (B0 Tryz.call135 (B0 Tryz.call153 (B0 Tryz.call154 (B0 Tryz.call155 (B0 Tryz.call156 Bodies.nil))))) (Eq.mp (by kernel_rfl) hvc)
def B7i(P:Program)(f:Bool)(g:OA)(i j:Nat)(k:Bool)(l:OA)(m n:Nat)(h:Heap)(K:Value->Heap->Prop):Prop:=
 FCall P Jn #[.agg #[.bool f,.slice g i j]] h (fun o e=>∃ (a:Bool) (b:OA) (c d:Nat),o= .agg #[.bool a,.slice b c d]/\Heap.le h e/\K (.agg #[.bool a,.slice b c d,.bool k,.slice l m n]) e)
theorem B2k(a:Bool)(b:OA)(d e:Nat)(f:Bool)(g:OA)(i j:Nat)(hvc:B7i Tryz.prog a b d e f g i j h K):FCall Tryz.prog A5f #[.agg #[.bool a,.slice b d e,.bool f,.slice g i j]] h K:=
 B8 Tryz.func97 (c:=C2 Tryz.f97) (by kernel_rfl) (rs:=[.cell 2 101]) (by kernel_rfl) (fa:=⟨[],[],[(1,([0,1,3,4,2,5,6],[[],[0],[0,1],[],[3],[0,1,2,3,4],[0,1,2,3,4,5]]))],[],[]⟩)
  (cfg:=⟨9,[1,2],none,[77],[],false⟩) (args:=[.agg #[.bool a,.slice b d e,.bool f,.slice g i j]]) (by kernel_rfl) (B0 Tryz.call77 Bodies.nil) (Eq.mp (by kernel_rfl) hvc)
def B7j(P:Program)(a:Bool)(b:OA)(c d:Nat)(t:Bool)(u:OA)(v w:Nat)(e:Bool)(f:OA)(g i:Nat)(x:Bool)(y:OA)(z A:Nat)(h:Heap)(K:Value->Heap->Prop):Prop:=
 ∃ (k:List Value->Heap->Prop),(FCall P G0 #[.agg #[.bool a,.slice b c d]] h (fun d3 d0=>∃ (B:Bool),d3= .bool B/\Br B (k [.bool true] d0)
 (FCall P G0 #[.agg #[.bool e,.slice f g i]] d0 (fun d4 d5=>∃ (C:Bool),d4= .bool C/\k [.bool C] d5))))/\
 ∀ (D:Bool),∀ s,k [.bool D] s->Br D (K (.agg #[.bool false,.slice none 0 0,.bool false,.slice none 0 0]) s)
 (∃ (l:List Value->Heap->Prop),(FCall P G0 #[.agg #[.bool t,.slice u v w]] s (fun d6 d1=>∃ (E:Bool),d6= .bool E/\Br E (FCall P G0 #[.agg #[.bool x,.slice y z A]] d1 (fun d7 d8=>∃ (F:Bool),d7= .bool F/\l [.bool F] d8))
 (l [.bool false] d1)))/\
 ∀ (G:Bool),∀ j,l [.bool G] j->Br G (FCall P Lx #[.agg #[.bool a,.slice b c d],.agg #[.bool e,.slice f g i]] j (fun d9 e0=>∃ (H:Bool) (J:OA) (L M:Nat),d9= .agg #[.bool H,.slice J L M]/\K (.agg #[.bool H,.slice J L M,.bool false,.slice none 0 0]) e0))
 (FCall P Si #[.agg #[.bool e,.slice f g i,.bool x,.slice y z A]] j (fun e1 m=>∃ (N:Bool) (O:OA) (Q R:Nat),e1= .agg #[.bool N,.slice O Q R]/\Heap.le j m/\FCall P Jp #[.agg #[.bool a,.slice b c d],.agg #[.bool N,.slice O Q R]] m (fun e2 n=>∃ (S:Bool) (T:OA) (V W:Nat) (X:Bool) (Z:OA) (a0 a1:Nat),e2= .tuple #[.agg #[.bool S,.slice T V W],.agg #[.bool X,.slice Z a0 a1]]/\Heap.le m n/\FCall P Si #[.agg #[.bool a,.slice b c d,.bool t,.slice u v w]] n (fun e3 o=>∃ (a2:Bool) (a3:OA) (a4 a5:Nat),e3= .agg #[.bool a2,.slice a3 a4 a5]/\Heap.le n o/\FCall P Jp #[.agg #[.bool e,.slice f g i],.agg #[.bool a2,.slice a3 a4 a5]] o (fun e4 p=>∃ (a6:Bool) (a7:OA) (a8 a9:Nat) (b0:Bool) (b1:OA) (b2 b3:Nat),e4= .tuple #[.agg #[.bool a6,.slice a7 a8 a9],.agg #[.bool b0,.slice b1 b2 b3]]/\Heap.le o p/\FCall P Lx #[.agg #[.bool S,.slice T V W],.agg #[.bool a6,.slice a7 a8 a9]] p (fun e5 q=>∃ (b4:Bool) (b5:OA) (b6 b7:Nat),e5= .agg #[.bool b4,.slice b5 b6 b7]/\Heap.le p q/\FCall P Lx #[.agg #[.bool b0,.slice b1 b2 b3],.agg #[.bool X,.slice Z a0 a1]] q (fun e6 r=>∃ (b8:Bool) (b9:OA) (c0 c1:Nat),e6= .agg #[.bool b8,.slice b9 c0 c1]/\Heap.le q r/\FCall P Ak #[.agg #[.bool b4,.slice b5 b6 b7],.agg #[.bool b8,.slice b9 c0 c1]] r (fun e7 d2=>∃ (c2:Bool) (c3:OA) (c4 c5:Nat) (c6:Bool) (c7:OA) (c8 c9:Nat),e7= .agg #[.bool c2,.slice c3 c4 c5,.bool c6,.slice c7 c8 c9]/\Heap.le r d2/\K (.agg #[.bool c2,.slice c3 c4 c5,.bool c6,.slice c7 c8 c9]) d2)))))))))
theorem B2l(a:Bool)(b:OA)(d e:Nat)(f:Bool)(g:OA)(i j:Nat)(k:Bool)(l:OA)(m n:Nat)(o:Bool)(p:OA)(q r:Nat)(hvc:B7j Tryz.prog a b d e f g i j k l m n o p q r h K):FCall Tryz.prog A1g #[.agg #[.bool a,.slice b d e,.bool f,.slice g i j],.agg #[.bool k,.slice l m n,.bool o,.slice p q r]] h K:=
 B8 Tryz.func103 (c:=C2 Tryz.f103) (by kernel_rfl) (rs:=[.cell 4 101]) (by kernel_rfl) (fa:=⟨[],[(2,⟨[16],[],[.bool false],⟨(Lrg 9 8),[]⟩⟩),(4,⟨[25],[],[.bool false],⟨(Lrg 18 8),[]⟩⟩)],[(5,([0,1,2,8,9,3,4,5,6,7,10,11],[[],[0],[],[2],[0,1,2,3],[0,1,2,3,4],[0,1,2,3,4,5],[0,1,2,3,4,5],[],[],[0,1,2,3,4,5,6,8,9],(Lrg 0 11)])),(6,([0,1,2,8,9,3,4,5,6,7,10,11],[[],[0],[],[2],[0,1,2,3],[0,1,2,3,4],[0,1,2,3,4,5],[0,1,2,3,4,5],[],[],[0,1,2,3,4,5,6,8,9],(Lrg 0 11)])),(7,([0,1,3,4,2,5,6,7],[[],[],[0,1],[],[],[0,1,2,3,4],[0,1,2,3,4,5],[0,1,2,3,4,5,6]]))],[],[]⟩)
  (cfg:=⟨55,[2,3,4,5,6,7,8],none,[124,135,139,152,159],[],false⟩) (args:=[.agg #[.bool a,.slice b d e,.bool f,.slice g i j],.agg #[.bool k,.slice l m n,.bool o,.slice p q r]]) (by kernel_rfl) (B0 Tryz.call124 (B0 Tryz.call135 (B0 Tryz.call139 (B0 Tryz.call152 (B0 Tryz.call159 Bodies.nil))))) (Eq.mp (by kernel_rfl) hvc)
def A1y(P:Program)(a:Bool)(b:OA)(c d:Nat)(l:Bool)(m:OA)(n o:Nat)(h:Heap)(K:Value->Heap->Prop):Prop:=
 FCall P Ug #[.agg #[.bool a,.slice b c d]] h (fun a2 e=>∃ (f:Int),a2=I f/\Br (f==(0:Int)) (K (.agg #[.bool false,.slice none 0 0,.bool false,.slice none 0 0]) e)
 (Br (f==(-1:Int)) (FCall P Si #[.agg #[.bool a,.slice b c d,.bool l,.slice m n o]] e (fun a3 g=>∃ (p:Bool) (q:OA) (r s:Nat),a3= .agg #[.bool p,.slice q r s]/\Heap.le e g/\FCall P Jn #[.agg #[.bool p,.slice q r s]] g (fun a4 i=>∃ (t:Bool) (u:OA) (v w:Nat),a4= .agg #[.bool t,.slice u v w]/\Heap.le g i/\FCall P Jn #[.agg #[.bool a,.slice b c d]] i (fun a5 j=>∃ (x:Bool) (y:OA) (z A:Nat),a5= .agg #[.bool x,.slice y z A]/\Heap.le i j/\FCall P Ak #[.agg #[.bool t,.slice u v w],.agg #[.bool x,.slice y z A]] j (fun a6 a0=>∃ (B:Bool) (C:OA) (D E:Nat) (F:Bool) (G:OA) (H J:Nat),a6= .agg #[.bool B,.slice C D E,.bool F,.slice G H J]/\Heap.le j a0/\K (.agg #[.bool B,.slice C D E,.bool F,.slice G H J]) a0)))))
 (FCall P Si #[.agg #[.bool a,.slice b c d,.bool l,.slice m n o]] e (fun a7 k=>∃ (L:Bool) (M:OA) (N O:Nat),a7= .agg #[.bool L,.slice M N O]/\Heap.le e k/\FCall P Ak #[.agg #[.bool L,.slice M N O],.agg #[.bool a,.slice b c d]] k (fun a8 a1=>∃ (Q:Bool) (R:OA) (S T:Nat) (V:Bool) (W:OA) (X Z:Nat),a8= .agg #[.bool Q,.slice R S T,.bool V,.slice W X Z]/\Heap.le k a1/\K (.agg #[.bool Q,.slice R S T,.bool V,.slice W X Z]) a1)))))
theorem A0o(a:Bool)(b:OA)(d e:Nat)(f:Bool)(g:OA)(i j:Nat)(hvc:A1y Tryz.prog a b d e f g i j h K):FCall Tryz.prog Lc #[.agg #[.bool a,.slice b d e,.bool f,.slice g i j]] h K:=
 B8 Tryz.func157 (c:=C2 Tryz.f157) (by kernel_rfl) (rs:=[.cell 2 101]) (by kernel_rfl) (fa:=⟨[],[],[(5,([0,3,4,1,2,5,6,7],[[],[0],[0,1],[],[3],[0,1,2,3,4],[0,1,2,3,4,5],[0,1,2,3,4,5,6]])),(6,([0,2,3,1,4,5],[[],[0],[],[2],[0,1,2,3],[0,1,2,3,4]]))],[],[]⟩)
  (cfg:=⟨23,[1,2],none,[77,124,137,139],[],false⟩) (args:=[.agg #[.bool a,.slice b d e,.bool f,.slice g i j]]) (by kernel_rfl) (B0 Tryz.call77 (B0 Tryz.call124 (B0 Tryz.call137 (B0 Tryz.call139 Bodies.nil)))) (Eq.mp (by kernel_rfl) hvc)
def B7k(P:Program)(t:Bool)(u:OA)(v w:Nat)(x:Bool)(y:OA)(z A:Nat)(B:Bool)(C:OA)(D E:Nat)(F:Bool)(G:OA)(H J:Nat)(h:Heap)(K:Value->Heap->Prop):Prop:=
 FCall P Lc #[.agg #[.bool B,.slice C D E,.bool F,.slice G H J]] h (fun L a=>∃ (b:Bool) (c:OA) (d e:Nat) (f:Bool) (g:OA) (i j:Nat),L= .agg #[.bool b,.slice c d e,.bool f,.slice g i j]/\Heap.le h a/\FCall P A1g #[.agg #[.bool t,.slice u v w,.bool x,.slice y z A],.agg #[.bool b,.slice c d e,.bool f,.slice g i j]] a (fun M s=>∃ (k:Bool) (l:OA) (m n:Nat) (o:Bool) (p:OA) (q r:Nat),M= .agg #[.bool k,.slice l m n,.bool o,.slice p q r]/\Heap.le a s/\K (.agg #[.bool k,.slice l m n,.bool o,.slice p q r]) s))
theorem B2m(a:Bool)(b:OA)(d e:Nat)(f:Bool)(g:OA)(i j:Nat)(k:Bool)(l:OA)(m n:Nat)(o:Bool)(p:OA)(q r:Nat)(hvc:B7k Tryz.prog a b d e f g i j k l m n o p q r h K):FCall Tryz.prog Xd #[.agg #[.bool a,.slice b d e,.bool f,.slice g i j],.agg #[.bool k,.slice l m n,.bool o,.slice p q r]] h K:=
 B8 Tryz.func98 (c:=C2 Tryz.f98) (by kernel_rfl) (rs:=[.cell 4 101]) (by kernel_rfl) (fa:=⟨[],[],[(1,([0,1,2,3,4],[[],[],[1],[0,1,2],[0,1,2,3]]))],[],[]⟩)
  (cfg:=⟨9,[2,3,4],none,[103,157],[],false⟩) (args:=[.agg #[.bool a,.slice b d e,.bool f,.slice g i j],.agg #[.bool k,.slice l m n,.bool o,.slice p q r]]) (by kernel_rfl) (B0 Tryz.call103 (B0 Tryz.call157 Bodies.nil)) (Eq.mp (by kernel_rfl) hvc)
end Go.Proofs.YthilnfgnpdeofaaGreatDoor
