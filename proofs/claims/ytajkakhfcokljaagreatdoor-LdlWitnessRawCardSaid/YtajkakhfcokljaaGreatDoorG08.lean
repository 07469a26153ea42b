/-
  Texts of this proof, merged by a program of ours.
-/
import Derived.Test.YtajkakhfcokljaaGreatDoorProg
import Derived.Test.YtajkakhfcokljaaGreatDoorG05
import Derived.Test.YtajkakhfcokljaaGreatDoorG06
import Derived.Test.YtajkakhfcokljaaGreatDoorG07
namespace Go.Proofs.YtajkakhfcokljaaGreatDoor
open Go
set_option maxRecDepth 100000
set_option linter.unusedVariables false
variable {h:Heap} {K:Value->Heap->Prop}
abbrev Ur:Nat:=113
abbrev U8:Nat:=178
abbrev B1i:Nat:=112
abbrev B4g:Nat:=78
abbrev A8r:Nat:=176
abbrev B8o:Nat:=155
abbrev A8q:Nat:=79
abbrev Aa:Nat:=166
abbrev Ax:Nat:=132
abbrev S3:Nat:=159
abbrev Jk:Nat:=158
abbrev A0m:Nat:=83
abbrev B6r:Nat:=80
abbrev B6s:Nat:=46
abbrev Sg:Nat:=148
abbrev B8n:Nat:=27
abbrev B7q:Nat:=58
abbrev B8q:Nat:=86
abbrev Sh:Nat:=84
abbrev Pg:Nat:=73
abbrev A0n:Nat:=121
abbrev Fo:Nat:=106
abbrev B6t:Nat:=105
abbrev A6o:Nat:=71
abbrev A28:Nat:=130
abbrev A6n:Nat:=167
abbrev Xr:Nat:=81
abbrev Lh:Nat:=146
abbrev Xs:Nat:=72
abbrev B8i:Nat:=207
def B25(P:Program)(p:ByteArray)(h:Heap)(K:Value->Heap->Prop):Prop:=
 FCall P Ft #[.string p,.string ({ data:=#[45] }:ByteArray)] h (fun q r=>∃ (j:ByteArray) (b:Bool),q= .tuple #[.string j,.bool b]/\FCall P U8 #[.string j] r (fun s f=>∃ (a d:ByteArray),s= .tuple #[.string a,.string d]/\Br (ByteArray.toList a==ByteArray.toList ({ data:=#[48] }:ByteArray)) (Br (!b) (K (.tuple #[.agg #[.bool b,.string a,.string ({ data:=#[] }:ByteArray)],.bool (ByteArray.toList d==ByteArray.toList ({ data:=#[] }:ByteArray))]) f)
 (K (.tuple #[.agg #[.bool b,.string a,.string ({ data:=#[] }:ByteArray)],.bool false]) f))
 (∃ (i:List Value->Heap->Prop),(Br (ByteArray.toList a==ByteArray.toList ({ data:=#[] }:ByteArray)) (i [.bool true] f)
 (∃ (k:UInt8),(0<=(0:Int)/\(a)[((0:Int)).toNat]? = some k)/\i [.bool (((k.toNat:Nat):Int)==(48:Int))] f))/\
 ∀ (l:Bool),∀ e,i [.bool l] e->Br l (K (.tuple #[.agg #[.bool b,.string a,.string ({ data:=#[] }:ByteArray)],.bool false]) e)
 (Br (ByteArray.toList d==ByteArray.toList ({ data:=#[] }:ByteArray)) (K (.tuple #[.agg #[.bool b,.string a,.string ({ data:=#[] }:ByteArray)],.bool true]) e)
 (∃ (m:UInt8),(0<=(0:Int)/\(d)[((0:Int)).toNat]? = some m)/\Br (((m.toNat:Nat):Int) != (47:Int)) (K (.tuple #[.agg #[.bool b,.string a,.string ({ data:=#[] }:ByteArray)],.bool false]) e)
 ((0<=(1:Int)/\(1:Int)<=(((d).size:Nat):Int))/\FCall P U8 #[.string ((d).extract (((1:Int)).toNat) ((d).size))] e (fun t g=>∃ (c n:ByteArray),t= .tuple #[.string c,.string n]/\Br (ByteArray.toList n==ByteArray.toList ({ data:=#[] }:ByteArray)) (Br (!(ByteArray.toList c==ByteArray.toList ({ data:=#[] }:ByteArray))) (∃ (o:UInt8),(0<=(0:Int)/\(c)[((0:Int)).toNat]? = some o)/\Br (((o.toNat:Nat):Int) != (48:Int)) (K (.tuple #[.agg #[.bool b,.string a,.string c],.bool (!(ByteArray.toList c==ByteArray.toList ({ data:=#[49] }:ByteArray)))]) g)
 (K (.tuple #[.agg #[.bool b,.string a,.string c],.bool false]) g))
 (K (.tuple #[.agg #[.bool b,.string a,.string c],.bool false]) g))
 (K (.tuple #[.agg #[.bool b,.string a,.string c],.bool false]) g))))))))
theorem A7u(a:ByteArray)(hvc:B25 Tryz.prog a h K):FCall Tryz.prog Ur #[.string a] h K:=
 B7 Tryz.func113 (c:=C2 Tryz.f113) (by kernel_rfl) (rs:=[.cell 2 164,.tmp 3]) (by kernel_rfl) (fa:=⟨[],[(8,⟨[31],[],[.bool false],⟨(Lrg 31 10),[]⟩⟩)],[(14,((Lrg 0 21),[[],[],[1],[1,2],[1,2,3],[1,2,3,4],[1,2,3,4,5],[1,2,3,4,5,6],[1,2,3,4,5,6,7],(Lrg 1 8),(Lrg 1 9),(Lrg 1 10),(Lrg 1 11),(Lrg 1 12),(Lrg 1 13),(Lrg 1 14),(Lrg 1 15),(Lrg 1 16),(Lrg 1 17),(Lrg 0 15),(Lrg 0 20)]))],[],[]⟩)
  (cfg:=⟨77,[2,4],none,[177,178],[],false⟩) (args:=[.string a]) (by kernel_rfl) (B0 Tryz.call177 (B0 Tryz.call178 Bodies.nil)) (Eq.mp (by kernel_rfl) hvc)
def Su(P:Program)(b:ByteArray)(h:Heap)(K:Value->Heap->Prop):Prop:=
 ∃ (e:List Value->Heap->Prop),(∃ (f:List Value->Heap->Prop) (g:List Value->Heap->Nat),f [I 0] h/\
 ∀ (a:Int),∀ d,f [I a] d->Br (decide (a<((ByteArray.size b:Nat):Int))) (∃ (i:UInt8),(0<=a/\(b)[a.toNat]? = some i)/\Br (decide ((48:Int)<=((i.toNat:Nat):Int))) (∃ (j:UInt8),(0<=a/\(b)[a.toNat]? = some j)/\Br (decide (((j.toNat:Nat):Int)<=(57:Int))) (f [I (B4 (a+1))] d/\g [I (B4 (a+1))] d<g [I a] d)
 (e [I a] d))
 (e [I a] d))
 (e [I a] d))/\
 ∀ (c:Int),∀ k,e [I c] k->(0<=c/\c<=(((b).size:Nat):Int))/\(0<=c/\c<=(((b).size:Nat):Int))/\K (.tuple #[.string ((b).extract 0 (c.toNat)),.string ((b).extract (c.toNat) ((b).size))]) k
theorem Vo(a:ByteArray)(hvc:Su Tryz.prog a h K):FCall Tryz.prog U8 #[.string a] h K:=
 B7 Tryz.func178 (c:=C2 Tryz.f178) (by kernel_rfl) (rs:=[.tmp 2,.tmp 3]) (by kernel_rfl) (fa:=⟨[(2,⟨[4],[],[.int .i64 0],⟨(Lrg 4 19),[]⟩⟩)],[(4,⟨[4],[],[.int .i64 0],⟨(Lrg 4 19),[]⟩⟩)],[(4,((Lrg 0 8),[[],[],[0,1],[],[],[3,4],[0,1,2],[0,1,2,3,4,5,6]]))],[],[]⟩)
  (cfg:=⟨29,[],none,[],[],false⟩) (args:=[.string a]) (by kernel_rfl) Bodies.nil (Eq.mp (by kernel_rfl) hvc)
def B26(P:Program)(e:Int)(h:Heap)(K:Value->Heap->Prop):Prop:=
 FCall P Pf #[I e] h (fun f g=>∃ (a:Bool) (b:OA) (c d:Nat),f= .agg #[.bool a,.slice b c d]/\K (.agg #[.bool a,.slice b c d,.bool false,.slice none 0 0]) g)
theorem A7v(a:Int)(hvc:B26 Tryz.prog a h K):FCall Tryz.prog Aa #[I a] h K:=
 B7 Tryz.func166 (c:=C2 Tryz.f166) (by kernel_rfl) (rs:=[.cell 2 106]) (by kernel_rfl) (fa:=⟨[],[],[],[],[]⟩)
  (cfg:=⟨6,[2],none,[139],[],false⟩) (args:=[I a]) (by kernel_rfl) (B0 Tryz.call139 Bodies.nil) (Eq.mp (by kernel_rfl) hvc)
def Yu(P:Program)(r:Bool)(s:OA)(t u:Nat)(j:Bool)(k:OA)(l m:Nat)(h:Heap)(K:Value->Heap->Prop):Prop:=
 ∃ (v:List Value->Heap->Prop),(FCall P E9 #[.agg #[.bool j,.slice k l m]] h (fun c4 b9=>∃ (C:Bool),c4= .bool C/\Br C (v [.bool true] b9)
 (FCall P E9 #[.agg #[.bool r,.slice s t u]] b9 (fun c5 c6=>∃ (D:Bool),c5= .bool D/\v [.bool D] c6))))/\
 ∀ (E:Bool),∀ B,v [.bool E] B->Br E (K (.agg #[.bool false,.slice none 0 0,.bool false,.slice none 0 0]) B)
 (∃ (w:List Value->Heap->Prop),(FCall P Pc #[.agg #[.bool j,.slice k l m]] B (fun c7 x=>∃ (F:Int),c7=I F/\Br (decide (F<(0:Int))) (FCall P Jj #[.agg #[.bool r,.slice s t u]] x (fun c8 y=>∃ (G:Bool) (H:OA) (J L:Nat),c8= .agg #[.bool G,.slice H J L]/\Heap.le x y/\FCall P Jj #[.agg #[.bool j,.slice k l m]] y (fun c9 c0=>∃ (M:Bool) (N:OA) (O Q:Nat),c9= .agg #[.bool M,.slice N O Q]/\Heap.le y c0/\w [.bool G,.slice H J L,.bool M,.slice N O Q] c0)))
 (w [.bool r,.slice s t u,.bool j,.slice k l m] x)))/\
 ∀ (a:Bool) (b:OA) (c d:Nat) (e:Bool) (f:OA) (g i:Nat),∀ c3,w [.bool a,.slice b c d,.bool e,.slice f g i] c3->FCall P Z6 #[.agg #[.bool e,.slice f g i]] c3 (fun d0 c1=>∃ (R:Bool),d0= .bool R/\Br R (K (.agg #[.bool a,.slice b c d,.bool false,.slice none 0 0]) c1)
 (FCall P Ml #[.agg #[.bool a,.slice b c d],.agg #[.bool e,.slice f g i]] c1 (fun d1 d2=>∃ (n:Bool) (o:OA) (p q:Nat),d1= .agg #[.bool n,.slice o p q]/\FCall P Z6 #[.agg #[.bool n,.slice o p q]] d2 (fun d3 z=>∃ (S:Bool),d3= .bool S/\Br (!S) (FCall P Ck #[.agg #[.bool a,.slice b c d],.agg #[.bool n,.slice o p q]] z (fun d4 A=>∃ (T:Bool) (V:OA) (W X:Nat),d4= .agg #[.bool T,.slice V W X]/\Heap.le z A/\FCall P Ck #[.agg #[.bool e,.slice f g i],.agg #[.bool n,.slice o p q]] A (fun d5 c2=>∃ (Z:Bool) (a0:OA) (a1 a2:Nat),d5= .agg #[.bool Z,.slice a0 a1 a2]/\Heap.le A c2/\FCall P S3 #[.agg #[.bool T,.slice V W X],.agg #[.bool Z,.slice a0 a1 a2]] c2 (fun d6 d7=>∃ (a3:Bool) (a4:OA) (a5 a6:Nat) (a7:Bool) (a8:OA) (a9 b0:Nat),d6= .agg #[.bool a3,.slice a4 a5 a6,.bool a7,.slice a8 a9 b0]/\K (.agg #[.bool a3,.slice a4 a5 a6,.bool a7,.slice a8 a9 b0]) d7))))
 (FCall P S3 #[.agg #[.bool a,.slice b c d],.agg #[.bool e,.slice f g i]] z (fun d8 d9=>∃ (b1:Bool) (b2:OA) (b3 b4:Nat) (b5:Bool) (b6:OA) (b7 b8:Nat),d8= .agg #[.bool b1,.slice b2 b3 b4,.bool b5,.slice b6 b7 b8]/\K (.agg #[.bool b1,.slice b2 b3 b4,.bool b5,.slice b6 b7 b8]) d9)))))))
theorem Yt(a:Bool)(b:OA)(d e:Nat)(f:Bool)(g:OA)(i j:Nat)(hvc:Yu Tryz.prog a b d e f g i j h K):FCall Tryz.prog Ax #[.agg #[.bool a,.slice b d e],.agg #[.bool f,.slice g i j]] h K:=
 B7 Tryz.func132 (c:=C2 Tryz.f132) (by kernel_rfl) (rs:=[.cell 4 106]) (by kernel_rfl) (fa:=⟨[],[(2,⟨[11],[],[.bool false],⟨[6,7,8,9,10,11],[]⟩⟩),(5,⟨[],[(2,2),(3,2)],[.bool false,.slice none 0 0,.bool false,.slice none 0 0],⟨[13,14,15,16,17,18,19],[2,3]⟩⟩)],[(4,([0,2,1,3,4,5],[[],[0],[],[0,1,2],[0,1,2,3],[0,1,2,3,4]])),(9,([0,1,3,4,2,5,6,7],[[],[],[0,1],[],[],[0,1,2,3,4],[0,1,2,3,4,5],[0,1,2,3,4,5,6]]))],[],[]⟩)
  (cfg:=⟨39,[2,3,4,5],none,[115,116,138,140,145,159,184],[],false⟩) (args:=[.agg #[.bool a,.slice b d e],.agg #[.bool f,.slice g i j]]) (by kernel_rfl) (B0 Tryz.call115 (B0 Tryz.call116 (B0 Tryz.call138 (B0 Tryz.call140 (B0 Tryz.call145 (B0 Tryz.call159 (B0 Tryz.call184 Bodies.nil))))))) (Eq.mp (by kernel_rfl) hvc)
def A7w(P:Program)(a:Bool)(b:OA)(c d:Nat)(e:Bool)(f:OA)(g i:Nat)(h:Heap)(K:Value->Heap->Prop):Prop:=
 FCall P Z6 #[.agg #[.bool e,.slice f g i]] h (fun l k=>∃ (j:Bool),l= .bool j/\Br j (K (.agg #[.bool a,.slice b c d,.bool false,.slice none 0 0]) k)
 (K (.agg #[.bool a,.slice b c d,.bool e,.slice f g i]) k))
theorem A44(a:Bool)(b:OA)(d e:Nat)(f:Bool)(g:OA)(i j:Nat)(hvc:A7w Tryz.prog a b d e f g i j h K):FCall Tryz.prog S3 #[.agg #[.bool a,.slice b d e],.agg #[.bool f,.slice g i j]] h K:=
 B7 Tryz.func159 (c:=C2 Tryz.f159) (by kernel_rfl) (rs:=[.cell 4 106]) (by kernel_rfl) (fa:=⟨[],[],[],[],[]⟩)
  (cfg:=⟨12,[2,3,4],none,[116],[],false⟩) (args:=[.agg #[.bool a,.slice b d e],.agg #[.bool f,.slice g i j]]) (by kernel_rfl) (B0 Tryz.call116 Bodies.nil) (Eq.mp (by kernel_rfl) hvc)
def A7x(P:Program)(e:Bool)(f:OA)(g i:Nat)(a:Bool)(b:OA)(c d:Nat)(h:Heap)(K:Value->Heap->Prop):Prop:=
 FCall P Z6 #[.agg #[.bool a,.slice b c d]] h (fun A x=>∃ (o:Bool),A= .bool o/\Br o (K (.tuple #[.agg #[.bool e,.slice f g i],.agg #[.bool a,.slice b c d]]) x)
 (FCall P Ml #[.agg #[.bool e,.slice f g i],.agg #[.bool a,.slice b c d]] x (fun B y=>∃ (j:Bool) (k:OA) (l m:Nat),B= .agg #[.bool j,.slice k l m]/\FCall P Ck #[.agg #[.bool e,.slice f g i],.agg #[.bool j,.slice k l m]] y (fun C n=>∃ (p:Bool) (q:OA) (r s:Nat),C= .agg #[.bool p,.slice q r s]/\Heap.le y n/\FCall P Ck #[.agg #[.bool a,.slice b c d],.agg #[.bool j,.slice k l m]] n (fun D z=>∃ (t:Bool) (u:OA) (v w:Nat),D= .agg #[.bool t,.slice u v w]/\Heap.le n z/\K (.tuple #[.agg #[.bool p,.slice q r s],.agg #[.bool t,.slice u v w]]) z)))))
theorem A45(a:Bool)(b:OA)(d e:Nat)(f:Bool)(g:OA)(i j:Nat)(hvc:A7x Tryz.prog a b d e f g i j h K):FCall Tryz.prog Jk #[.agg #[.bool a,.slice b d e],.agg #[.bool f,.slice g i j]] h K:=
 B7 Tryz.func158 (c:=C2 Tryz.f158) (by kernel_rfl) (rs:=[.cell 4 102,.cell 5 102]) (by kernel_rfl) (fa:=⟨[],[],[(2,([0,1,2,3],[[],[],[0],[0,1,2]])),(4,([0,1,3,4,2,5,6,7],[[],[],[0,1],[],[],[0,1,2,3,4],[0,1,2,3,4,5],[0,1,2,3,4,5,6]]))],[],[]⟩)
  (cfg:=⟨20,[2,3,4,5,6],none,[115,116,140],[],false⟩) (args:=[.agg #[.bool a,.slice b d e],.agg #[.bool f,.slice g i j]]) (by kernel_rfl) (B0 Tryz.call115 (B0 Tryz.call116 (B0 Tryz.call140 Bodies.nil))) (Eq.mp (by kernel_rfl) hvc)
def B67(P:Program)(L:ByteArray)(h:Heap)(K:Value->Heap->Prop):Prop:=
 FCall P Ur #[.string L] h (fun M G=>∃ (q:Bool) (r e:ByteArray) (s:Bool),M= .tuple #[.agg #[.bool q,.string r,.string e],.bool s]/\Br (!s) (K (.tuple #[.agg #[.bool false,.slice none 0 0,.bool false,.slice none 0 0],.bool false]) G)
 (FCall P Nw #[.string r] G (fun N H=>∃ (f:Bool) (g:OA) (i j:Nat),N= .agg #[.bool f,.slice g i j]/\∃ (k:List Value->Heap->Prop),(Br q (FCall P Jj #[.agg #[.bool f,.slice g i j]] H (fun O Q=>∃ (t:Bool) (u:OA) (v w:Nat),O= .agg #[.bool t,.slice u v w]/\k [.bool t,.slice u v w,.bool false,.slice none 0 0] Q))
 (k [.bool f,.slice g i j,.bool false,.slice none 0 0] H))/\
 ∀ (a:Bool) (b:OA) (c d:Nat) (x:Bool) (y:OA) (z A:Nat),∀ p,k [.bool a,.slice b c d,.bool x,.slice y z A] p->Br (ByteArray.toList e==ByteArray.toList ({ data:=#[] }:ByteArray)) (K (.tuple #[.agg #[.bool a,.slice b c d,.bool x,.slice y z A],.bool true]) p)
 (FCall P Nw #[.string e] p (fun R S=>∃ (l:Bool) (m:OA) (n o:Nat),R= .agg #[.bool l,.slice m n o]/\FCall P Ml #[.agg #[.bool a,.slice b c d],.agg #[.bool l,.slice m n o]] S (fun T V=>∃ (B:Bool) (C:OA) (D E:Nat),T= .agg #[.bool B,.slice C D E]/\FCall P Z6 #[.agg #[.bool B,.slice C D E]] V (fun W J=>∃ (F:Bool),W= .bool F/\Br (!F) (K (.tuple #[.agg #[.bool false,.slice none 0 0,.bool false,.slice none 0 0],.bool false]) J)
 (K (.tuple #[.agg #[.bool a,.slice b c d,.bool l,.slice m n o],.bool true]) J))))))))
theorem B0o(a:ByteArray)(hvc:B67 Tryz.prog a h K):FCall Tryz.prog A0m #[.string a] h K:=
 B7 Tryz.func83 (c:=C2 Tryz.f83) (by kernel_rfl) (rs:=[.cell 2 106,.tmp 3]) (by kernel_rfl) (fa:=⟨[],[(7,⟨[],[(6,4)],[.bool false,.slice none 0 0,.bool false,.slice none 0 0],⟨[19,20,21,22,23,24],[6]⟩⟩)],[],[],[]⟩)
  (cfg:=⟨42,[2,4,6],none,[113,114,115,116,145],[],false⟩) (args:=[.string a]) (by kernel_rfl) (B0 Tryz.call113 (B0 Tryz.call114 (B0 Tryz.call115 (B0 Tryz.call116 (B0 Tryz.call145 Bodies.nil))))) (Eq.mp (by kernel_rfl) hvc)
def A2o(P:Program)(b:Int)(h:Heap)(K:Value->Heap->Prop):Prop:=
 FCall P Fs #[I b,I 10] h (fun c d=>∃ (a:ByteArray),c= .string a/\K (.string a) d)
theorem A1b(a:Int)(hvc:A2o Tryz.prog a h K):FCall Tryz.prog Sg #[I a] h K:=
 B7 Tryz.func148 (c:=C2 Tryz.f148) (by kernel_rfl) (rs:=[.tmp 2]) (by kernel_rfl) (fa:=⟨[],[],[],[],[]⟩)
  (cfg:=⟨5,[],none,[156],[],false⟩) (args:=[I a]) (by kernel_rfl) (B0 Tryz.call156 Bodies.nil) (Eq.mp (by kernel_rfl) hvc)
def B9d(P:Program)(o:Bool)(p:OA)(q r:Nat)(a:Bool)(b:OA)(c d:Nat)(h:Heap)(K:Value->Heap->Prop):Prop:=
 FCall P E9 #[.agg #[.bool a,.slice b c d]] h (fun l k=>∃ (e:Bool),l= .bool e/\Br e (FCall P Pf #[I 1] k (fun m n=>∃ (f:Bool) (g:OA) (i j:Nat),m= .agg #[.bool f,.slice g i j]/\K (.agg #[.bool f,.slice g i j]) n))
 (K (.agg #[.bool a,.slice b c d]) k))
theorem B48(a:Bool)(b:OA)(d e:Nat)(f:Bool)(g:OA)(i j:Nat)(hvc:B9d Tryz.prog a b d e f g i j h K):FCall Tryz.prog Sh #[.agg #[.bool a,.slice b d e,.bool f,.slice g i j]] h K:=
 B7 Tryz.func84 (c:=C2 Tryz.f84) (by kernel_rfl) (rs:=[.cell 2 102]) (by kernel_rfl) (fa:=⟨[],[],[],[],[]⟩)
  (cfg:=⟨9,[1,2],none,[138,139],[],false⟩) (args:=[.agg #[.bool a,.slice b d e,.bool f,.slice g i j]]) (by kernel_rfl) (B0 Tryz.call138 (B0 Tryz.call139 Bodies.nil)) (Eq.mp (by kernel_rfl) hvc)
def A7z(P:Program)(a:Bool)(b:OA)(c d:Nat)(e:Bool)(f:OA)(g i:Nat)(h:Heap)(K:Value->Heap->Prop):Prop:=
 FCall P E9 #[.agg #[.bool e,.slice f g i]] h (fun D B=>∃ (j:Bool),D= .bool j/\Br j (FCall P Uo #[.agg #[.bool a,.slice b c d]] B (fun E C=>∃ (k:Int) (l:Bool),E= .tuple #[I k,.bool l]/\Br l (FCall P Sg #[I k] C (fun F G=>∃ (m:ByteArray),F= .string m/\K (.string m) G))
 (FCall P Pb #[.agg #[.bool a,.slice b c d]] C (fun H J=>∃ (n:ByteArray),H= .string n/\K (.string n) J))))
 (FCall P Fn #[.agg #[.bool a,.slice b c d],.slice none 0 0] B (fun L M=>∃ (o:OA) (p q:Nat),L= .slice o p q/\wpH P (Instr.buildSlice 199 1 #[(0,Y (47:Int))]) (fun N O=>∃ (r:OA) (s t:Nat),N= .slice r s t/\wpH P (Builtin.append_ #[199,199] 199 #[.slice o p q,.slice r s t]) (fun Q R=>∃ (u:OA) (v w:Nat),Q= .slice u v w/\FCall P Fn #[.agg #[.bool e,.slice f g i],.slice u v w] R (fun S T=>∃ (x:OA) (y z:Nat),S= .slice x y z/\wpH P (convert 199 9 (.slice x y z)) (fun V W=>∃ (A:ByteArray),V= .string A/\K (.string A) W) T)) O) M)))
theorem A47(a:Bool)(b:OA)(d e:Nat)(f:Bool)(g:OA)(i j:Nat)(hvc:A7z Tryz.prog a b d e f g i j h K):FCall Tryz.prog Pg #[.agg #[.bool a,.slice b d e,.bool f,.slice g i j]] h K:=
 B7 Tryz.func73 (c:=C2 Tryz.f73) (by kernel_rfl) (rs:=[.tmp 2]) (by kernel_rfl) (fa:=⟨[],[],[],[],[]⟩)
  (cfg:=⟨31,[1],none,[138,147,148,149,150],[],false⟩) (args:=[.agg #[.bool a,.slice b d e,.bool f,.slice g i j]]) (by kernel_rfl) (B0 Tryz.call138 (B0 Tryz.call147 (B0 Tryz.call148 (B0 Tryz.call149 (B0 Tryz.call150 Bodies.nil))))) (Eq.mp (by kernel_rfl) hvc)
def B68(P:Program)(b:Bool)(c:OA)(d e:Nat)(i:Bool)(j:OA)(k l:Nat)(h:Heap)(K:Value->Heap->Prop):Prop:=
 FCall P Pc #[.agg #[.bool b,.slice c d e]] h (fun f g=>∃ (a:Int),f=I a/\K (I a) g)
theorem B0p(a:Bool)(b:OA)(d e:Nat)(f:Bool)(g:OA)(i j:Nat)(hvc:B68 Tryz.prog a b d e f g i j h K):FCall Tryz.prog A0n #[.agg #[.bool a,.slice b d e,.bool f,.slice g i j]] h K:=
 B7 Tryz.func121 (c:=C2 Tryz.f121) (by kernel_rfl) (rs:=[.tmp 2]) (by kernel_rfl) (fa:=⟨[],[],[],[],[]⟩)
  (cfg:=⟨6,[1],none,[184],[],false⟩) (args:=[.agg #[.bool a,.slice b d e,.bool f,.slice g i j]]) (by kernel_rfl) (B0 Tryz.call184 Bodies.nil) (Eq.mp (by kernel_rfl) hvc)
def A81(P:Program)(b:Bool)(c:OA)(d e:Nat)(i:Bool)(j:OA)(k l:Nat)(h:Heap)(K:Value->Heap->Prop):Prop:=
 FCall P E9 #[.agg #[.bool b,.slice c d e]] h (fun f g=>∃ (a:Bool),f= .bool a/\K (.bool a) g)
theorem A49(a:Bool)(b:OA)(d e:Nat)(f:Bool)(g:OA)(i j:Nat)(hvc:A81 Tryz.prog a b d e f g i j h K):FCall Tryz.prog Fo #[.agg #[.bool a,.slice b d e,.bool f,.slice g i j]] h K:=
 B7 Tryz.func106 (c:=C2 Tryz.f106) (by kernel_rfl) (rs:=[.tmp 2]) (by kernel_rfl) (fa:=⟨[],[],[],[],[]⟩)
  (cfg:=⟨6,[1],none,[138],[],false⟩) (args:=[.agg #[.bool a,.slice b d e,.bool f,.slice g i j]]) (by kernel_rfl) (B0 Tryz.call138 Bodies.nil) (Eq.mp (by kernel_rfl) hvc)
def B9a(P:Program)(f:Bool)(g:OA)(i j:Nat)(k:Bool)(l:OA)(m n:Nat)(h:Heap)(K:Value->Heap->Prop):Prop:=
 FCall P Jj #[.agg #[.bool f,.slice g i j]] h (fun o e=>∃ (a:Bool) (b:OA) (c d:Nat),o= .agg #[.bool a,.slice b c d]/\Heap.le h e/\K (.agg #[.bool a,.slice b c d,.bool k,.slice l m n]) e)
theorem B45(a:Bool)(b:OA)(d e:Nat)(f:Bool)(g:OA)(i j:Nat)(hvc:B9a Tryz.prog a b d e f g i j h K):FCall Tryz.prog A6o #[.agg #[.bool a,.slice b d e,.bool f,.slice g i j]] h K:=
 B7 Tryz.func71 (c:=C2 Tryz.f71) (by kernel_rfl) (rs:=[.cell 2 106]) (by kernel_rfl) (fa:=⟨[],[],[(1,([0,1,3,4,2,5,6],[[],[0],[0,1],[],[3],[0,1,2,3,4],[0,1,2,3,4,5]]))],[],[]⟩)
  (cfg:=⟨9,[1,2],none,[145],[],false⟩) (args:=[.agg #[.bool a,.slice b d e,.bool f,.slice g i j]]) (by kernel_rfl) (B0 Tryz.call145 Bodies.nil) (Eq.mp (by kernel_rfl) hvc)
def B9e(P:Program)(r:Bool)(s:OA)(t u:Nat)(e:Bool)(f:OA)(g i:Nat)(v:Bool)(w:OA)(x y:Nat)(a:Bool)(b:OA)(c d:Nat)(h:Heap)(K:Value->Heap->Prop):Prop:=
 ∃ (A:List Value->Heap->Prop),(FCall P E9 #[.agg #[.bool e,.slice f g i]] h (fun i3 h4=>∃ (a1:Bool),i3= .bool a1/\Br a1 (FCall P E9 #[.agg #[.bool a,.slice b c d]] h4 (fun i4 i5=>∃ (a2:Bool),i4= .bool a2/\A [.bool a2] i5))
 (A [.bool false] h4)))/\
 ∀ (a3:Bool),∀ a0,A [.bool a3] a0->Br a3 (FCall P Sf #[.agg #[.bool r,.slice s t u],.agg #[.bool v,.slice w x y]] a0 (fun i6 i7=>∃ (a4:Bool) (a5:OA) (a6 a7:Nat),i6= .agg #[.bool a4,.slice a5 a6 a7]/\K (.agg #[.bool a4,.slice a5 a6 a7,.bool false,.slice none 0 0]) i7))
 (∃ (a8:List Value->Heap->Prop),(FCall P E9 #[.agg #[.bool e,.slice f g i]] a0 (fun i8 i9=>∃ (a9:Bool),i8= .bool a9/\a8 [.bool a9] i9))/\
 ∀ (b0:Bool),∀ z,a8 [.bool b0] z->Br b0 (FCall P Cl #[.agg #[.bool r,.slice s t u],.agg #[.bool a,.slice b c d]] z (fun j0 L=>∃ (b1:Bool) (b2:OA) (b3 b4:Nat),j0= .agg #[.bool b1,.slice b2 b3 b4]/\Heap.le z L/\FCall P Sf #[.agg #[.bool b1,.slice b2 b3 b4],.agg #[.bool v,.slice w x y]] L (fun j1 h5=>∃ (b5:Bool) (b6:OA) (b7 b8:Nat),j1= .agg #[.bool b5,.slice b6 b7 b8]/\Heap.le L h5/\K (.agg #[.bool b5,.slice b6 b7 b8,.bool a,.slice b c d]) h5)))
 (FCall P E9 #[.agg #[.bool a,.slice b c d]] z (fun j2 M=>∃ (b9:Bool),j2= .bool b9/\Br b9 (FCall P Cl #[.agg #[.bool v,.slice w x y],.agg #[.bool e,.slice f g i]] M (fun j3 N=>∃ (c0:Bool) (c1:OA) (c2 c3:Nat),j3= .agg #[.bool c0,.slice c1 c2 c3]/\Heap.le M N/\FCall P Sf #[.agg #[.bool c0,.slice c1 c2 c3],.agg #[.bool r,.slice s t u]] N (fun j4 h6=>∃ (c4:Bool) (c5:OA) (c6 c7:Nat),j4= .agg #[.bool c4,.slice c5 c6 c7]/\Heap.le N h6/\K (.agg #[.bool c4,.slice c5 c6 c7,.bool e,.slice f g i]) h6)))
 (FCall P Ml #[.agg #[.bool e,.slice f g i],.agg #[.bool a,.slice b c d]] M (fun j5 h7=>∃ (j:Bool) (k:OA) (l m:Nat),j5= .agg #[.bool j,.slice k l m]/\FCall P Ck #[.agg #[.bool a,.slice b c d],.agg #[.bool j,.slice k l m]] h7 (fun j6 O=>∃ (c8:Bool) (c9:OA) (d0 d1:Nat),j6= .agg #[.bool c8,.slice c9 d0 d1]/\Heap.le h7 O/\FCall P Ck #[.agg #[.bool e,.slice f g i],.agg #[.bool j,.slice k l m]] O (fun j7 Q=>∃ (B:Bool) (C:OA) (D E:Nat),j7= .agg #[.bool B,.slice C D E]/\Heap.le O Q/\FCall P Cl #[.agg #[.bool r,.slice s t u],.agg #[.bool c8,.slice c9 d0 d1]] Q (fun j8 R=>∃ (d2:Bool) (d3:OA) (d4 d5:Nat),j8= .agg #[.bool d2,.slice d3 d4 d5]/\Heap.le Q R/\FCall P Cl #[.agg #[.bool v,.slice w x y],.agg #[.bool B,.slice C D E]] R (fun j9 S=>∃ (d6:Bool) (d7:OA) (d8 d9:Nat),j9= .agg #[.bool d6,.slice d7 d8 d9]/\Heap.le R S/\FCall P Sf #[.agg #[.bool d2,.slice d3 d4 d5],.agg #[.bool d6,.slice d7 d8 d9]] S (fun k0 h8=>∃ (n:Bool) (o:OA) (p q:Nat),k0= .agg #[.bool n,.slice o p q]/\Heap.le S h8/\FCall P E9 #[.agg #[.bool n,.slice o p q]] h8 (fun k1 h9=>∃ (e0:Bool),k1= .bool e0/\Br e0 (K (.agg #[.bool false,.slice none 0 0,.bool false,.slice none 0 0]) h9)
 (FCall P Z6 #[.agg #[.bool j,.slice k l m]] h9 (fun k2 T=>∃ (e1:Bool),k2= .bool e1/\Br e1 (FCall P Cl #[.agg #[.bool e,.slice f g i],.agg #[.bool a,.slice b c d]] T (fun k3 V=>∃ (e2:Bool) (e3:OA) (e4 e5:Nat),k3= .agg #[.bool e2,.slice e3 e4 e5]/\Heap.le T V/\FCall P S3 #[.agg #[.bool n,.slice o p q],.agg #[.bool e2,.slice e3 e4 e5]] V (fun k4 i0=>∃ (e6:Bool) (e7:OA) (e8 e9:Nat) (f0:Bool) (f1:OA) (f2 f3:Nat),k4= .agg #[.bool e6,.slice e7 e8 e9,.bool f0,.slice f1 f2 f3]/\Heap.le V i0/\K (.agg #[.bool e6,.slice e7 e8 e9,.bool f0,.slice f1 f2 f3]) i0)))
 (FCall P Ml #[.agg #[.bool n,.slice o p q],.agg #[.bool j,.slice k l m]] T (fun k5 i1=>∃ (F:Bool) (G:OA) (H J:Nat),k5= .agg #[.bool F,.slice G H J]/\FCall P Ck #[.agg #[.bool n,.slice o p q],.agg #[.bool F,.slice G H J]] i1 (fun k6 W=>∃ (f4:Bool) (f5:OA) (f6 f7:Nat),k6= .agg #[.bool f4,.slice f5 f6 f7]/\Heap.le i1 W/\FCall P Ck #[.agg #[.bool a,.slice b c d],.agg #[.bool F,.slice G H J]] W (fun k7 X=>∃ (f8:Bool) (f9:OA) (g0 g1:Nat),k7= .agg #[.bool f8,.slice f9 g0 g1]/\Heap.le W X/\FCall P Cl #[.agg #[.bool B,.slice C D E],.agg #[.bool f8,.slice f9 g0 g1]] X (fun k8 Z=>∃ (g2:Bool) (g3:OA) (g4 g5:Nat),k8= .agg #[.bool g2,.slice g3 g4 g5]/\Heap.le X Z/\FCall P S3 #[.agg #[.bool f4,.slice f5 f6 f7],.agg #[.bool g2,.slice g3 g4 g5]] Z (fun k9 i2=>∃ (g6:Bool) (g7:OA) (g8 g9:Nat) (h0:Bool) (h1:OA) (h2 h3:Nat),k9= .agg #[.bool g6,.slice g7 g8 g9,.bool h0,.slice h1 h2 h3]/\Heap.le Z i2/\K (.agg #[.bool g6,.slice g7 g8 g9,.bool h0,.slice h1 h2 h3]) i2)))))))))))))))))))
theorem B49(a:Bool)(b:OA)(d e:Nat)(f:Bool)(g:OA)(i j:Nat)(k:Bool)(l:OA)(m n:Nat)(o:Bool)(p:OA)(q r:Nat)(hvc:B9e Tryz.prog a b d e f g i j k l m n o p q r h K):FCall Tryz.prog A28 #[.agg #[.bool a,.slice b d e,.bool f,.slice g i j],.agg #[.bool k,.slice l m n,.bool o,.slice p q r]] h K:=
 B7 Tryz.func130 (c:=C2 Tryz.f130) (by kernel_rfl) (rs:=[.cell 4 106]) (by kernel_rfl) (fa:=⟨[],[(2,⟨[10],[],[.bool false],⟨(Lrg 10 9),[]⟩⟩),(4,⟨[25],[],[.bool false],⟨[25,26,27,28],[]⟩⟩)],[(4,([0,1,2,3,5,6,8,9,4,7,10,11],[[],[0],[],[2],[0,1,2,3],[],[5],[0,1,2,3,4,5,6],[],[8],(Lrg 0 10),(Lrg 0 11)])),(6,([0,1,2,3,5,6,8,9,4,7,10,11],[[],[0],[],[2],[0,1,2,3],[],[5],[0,1,2,3,4,5,6],[],[8],(Lrg 0 10),(Lrg 0 11)])),(8,([0,1,2,4,5,6,8,9,3,7,10,11],[[],[0],[],[0,1,2],[],[4],[],[0,1,2,3,4,5,6],[],[],(Lrg 0 10),(Lrg 0 11)])),(9,([0,1,2,4,5,6,9,3,7,8,10],[[],[0],[],[0,1,2],[],[4],[],[0,1,2,3,4,5,6],(Lrg 0 8),[],(Lrg 0 10)])),(13,((Lrg 0 8),[[],[],[1],[],[3],[1,2,3,4],[0,1,2,3,4,5],[0,1,2,3,4,5,6]])),(15,([0,1,3,4,5,6,2,7,8,9,10],[[],[],[0,1],[],[],[4],[],[0,1,2,4,5,6],(Lrg 0 8),(Lrg 0 9),(Lrg 0 10)]))],[],[]⟩)
  (cfg:=⟨102,(Lrg 2 8),none,[115,116,138,140,154,159,183],[],false⟩) (args:=[.agg #[.bool a,.slice b d e,.bool f,.slice g i j],.agg #[.bool k,.slice l m n,.bool o,.slice p q r]]) (by kernel_rfl) (B0 Tryz.call115 (B0 Tryz.call116 (B0 Tryz.call138 (B0 Tryz.call140 (B0 Tryz.call154 (B0 Tryz.call159 (B0 Tryz.call183 Bodies.nil))))))) (Eq.mp (by kernel_rfl) hvc)
def B99(P:Program)(t:Bool)(u:OA)(v w:Nat)(x:Bool)(y:OA)(z A:Nat)(B:Bool)(C:OA)(D E:Nat)(F:Bool)(G:OA)(H J:Nat)(h:Heap)(K:Value->Heap->Prop):Prop:=
 FCall P A6o #[.agg #[.bool B,.slice C D E,.bool F,.slice G H J]] h (fun L a=>∃ (b:Bool) (c:OA) (d e:Nat) (f:Bool) (g:OA) (i j:Nat),L= .agg #[.bool b,.slice c d e,.bool f,.slice g i j]/\Heap.le h a/\FCall P A28 #[.agg #[.bool t,.slice u v w,.bool x,.slice y z A],.agg #[.bool b,.slice c d e,.bool f,.slice g i j]] a (fun M s=>∃ (k:Bool) (l:OA) (m n:Nat) (o:Bool) (p:OA) (q r:Nat),M= .agg #[.bool k,.slice l m n,.bool o,.slice p q r]/\Heap.le a s/\K (.agg #[.bool k,.slice l m n,.bool o,.slice p q r]) s))
theorem B44(a:Bool)(b:OA)(d e:Nat)(f:Bool)(g:OA)(i j:Nat)(k:Bool)(l:OA)(m n:Nat)(o:Bool)(p:OA)(q r:Nat)(hvc:B99 Tryz.prog a b d e f g i j k l m n o p q r h K):FCall Tryz.prog A6n #[.agg #[.bool a,.slice b d e,.bool f,.slice g i j],.agg #[.bool k,.slice l m n,.bool o,.slice p q r]] h K:=
 B7 Tryz.func167 (c:=C2 Tryz.f167) (by kernel_rfl) (rs:=[.cell 4 106]) (by kernel_rfl) (fa:=⟨[],[],[(1,([0,1,2,3,4],[[],[],[1],[0,1,2],[0,1,2,3]]))],[],[]⟩)
  (cfg:=⟨9,[2,3,4],none,[71,130],[],false⟩) (args:=[.agg #[.bool a,.slice b d e,.bool f,.slice g i j],.agg #[.bool k,.slice l m n,.bool o,.slice p q r]]) (by kernel_rfl) (B0 Tryz.call71 (B0 Tryz.call130 Bodies.nil)) (Eq.mp (by kernel_rfl) hvc)
def B9b(P:Program)(a:Bool)(b:OA)(c d:Nat)(t:Bool)(u:OA)(v w:Nat)(e:Bool)(f:OA)(g i:Nat)(x:Bool)(y:OA)(z A:Nat)(h:Heap)(K:Value->Heap->Prop):Prop:=
 ∃ (k:List Value->Heap->Prop),(FCall P E9 #[.agg #[.bool a,.slice b c d]] h (fun d3 d0=>∃ (B:Bool),d3= .bool B/\Br B (k [.bool true] d0)
 (FCall P E9 #[.agg #[.bool e,.slice f g i]] d0 (fun d4 d5=>∃ (C:Bool),d4= .bool C/\k [.bool C] d5))))/\
 ∀ (D:Bool),∀ s,k [.bool D] s->Br D (K (.agg #[.bool false,.slice none 0 0,.bool false,.slice none 0 0]) s)
 (∃ (l:List Value->Heap->Prop),(FCall P E9 #[.agg #[.bool t,.slice u v w]] s (fun d6 d1=>∃ (E:Bool),d6= .bool E/\Br E (FCall P E9 #[.agg #[.bool x,.slice y z A]] d1 (fun d7 d8=>∃ (F:Bool),d7= .bool F/\l [.bool F] d8))
 (l [.bool false] d1)))/\
 ∀ (G:Bool),∀ j,l [.bool G] j->Br G (FCall P Cl #[.agg #[.bool a,.slice b c d],.agg #[.bool e,.slice f g i]] j (fun d9 e0=>∃ (H:Bool) (J:OA) (L M:Nat),d9= .agg #[.bool H,.slice J L M]/\K (.agg #[.bool H,.slice J L M,.bool false,.slice none 0 0]) e0))
 (FCall P Sh #[.agg #[.bool e,.slice f g i,.bool x,.slice y z A]] j (fun e1 m=>∃ (N:Bool) (O:OA) (Q R:Nat),e1= .agg #[.bool N,.slice O Q R]/\Heap.le j m/\FCall P Jk #[.agg #[.bool a,.slice b c d],.agg #[.bool N,.slice O Q R]] m (fun e2 n=>∃ (S:Bool) (T:OA) (V W:Nat) (X:Bool) (Z:OA) (a0 a1:Nat),e2= .tuple #[.agg #[.bool S,.slice T V W],.agg #[.bool X,.slice Z a0 a1]]/\Heap.le m n/\FCall P Sh #[.agg #[.bool a,.slice b c d,.bool t,.slice u v w]] n (fun e3 o=>∃ (a2:Bool) (a3:OA) (a4 a5:Nat),e3= .agg #[.bool a2,.slice a3 a4 a5]/\Heap.le n o/\FCall P Jk #[.agg #[.bool e,.slice f g i],.agg #[.bool a2,.slice a3 a4 a5]] o (fun e4 p=>∃ (a6:Bool) (a7:OA) (a8 a9:Nat) (b0:Bool) (b1:OA) (b2 b3:Nat),e4= .tuple #[.agg #[.bool a6,.slice a7 a8 a9],.agg #[.bool b0,.slice b1 b2 b3]]/\Heap.le o p/\FCall P Cl #[.agg #[.bool S,.slice T V W],.agg #[.bool a6,.slice a7 a8 a9]] p (fun e5 q=>∃ (b4:Bool) (b5:OA) (b6 b7:Nat),e5= .agg #[.bool b4,.slice b5 b6 b7]/\Heap.le p q/\FCall P Cl #[.agg #[.bool b0,.slice b1 b2 b3],.agg #[.bool X,.slice Z a0 a1]] q (fun e6 r=>∃ (b8:Bool) (b9:OA) (c0 c1:Nat),e6= .agg #[.bool b8,.slice b9 c0 c1]/\Heap.le q r/\FCall P S3 #[.agg #[.bool b4,.slice b5 b6 b7],.agg #[.bool b8,.slice b9 c0 c1]] r (fun e7 d2=>∃ (c2:Bool) (c3:OA) (c4 c5:Nat) (c6:Bool) (c7:OA) (c8 c9:Nat),e7= .agg #[.bool c2,.slice c3 c4 c5,.bool c6,.slice c7 c8 c9]/\Heap.le r d2/\K (.agg #[.bool c2,.slice c3 c4 c5,.bool c6,.slice c7 c8 c9]) d2)))))))))
theorem B46(a:Bool)(b:OA)(d e:Nat)(f:Bool)(g:OA)(i j:Nat)(k:Bool)(l:OA)(m n:Nat)(o:Bool)(p:OA)(q r:Nat)(hvc:B9b Tryz.prog a b d e f g i j k l m n o p q r h K):FCall Tryz.prog Xr #[.agg #[.bool a,.slice b d e,.bool f,.slice g i j],.agg #[.bool k,.slice l m n,.bool o,.slice p q r]] h K:=
 B7 Tryz.func81 (c:=C2 Tryz.f81) (by kernel_rfl) (rs:=[.cell 4 106]) (by kernel_rfl) (fa:=⟨[],[(2,⟨[16],[],[.bool false],⟨(Lrg 9 8),[]⟩⟩),(4,⟨[25],[],[.bool false],⟨(Lrg 18 8),[]⟩⟩)],[(5,([0,1,2,8,9,3,4,5,6,7,10,11],[[],[0],[],[2],[0,1,2,3],[0,1,2,3,4],[0,1,2,3,4,5],[0,1,2,3,4,5],[],[],[0,1,2,3,4,5,6,8,9],(Lrg 0 11)])),(6,([0,1,2,8,9,3,4,5,6,7,10,11],[[],[0],[],[2],[0,1,2,3],[0,1,2,3,4],[0,1,2,3,4,5],[0,1,2,3,4,5],[],[],[0,1,2,3,4,5,6,8,9],(Lrg 0 11)])),(7,([0,1,3,4,2,5,6,7],[[],[],[0,1],[],[],[0,1,2,3,4],[0,1,2,3,4,5],[0,1,2,3,4,5,6]]))],[],[]⟩)
  (cfg:=⟨55,[2,3,4,5,6,7,8],none,[84,138,154,158,159],[],false⟩) (args:=[.agg #[.bool a,.slice b d e,.bool f,.slice g i j],.agg #[.bool k,.slice l m n,.bool o,.slice p q r]]) (by kernel_rfl) (B0 Tryz.call84 (B0 Tryz.call138 (B0 Tryz.call154 (B0 Tryz.call158 (B0 Tryz.call159 Bodies.nil))))) (Eq.mp (by kernel_rfl) hvc)
def A2r(P:Program)(a:Bool)(b:OA)(c d:Nat)(l:Bool)(m:OA)(n o:Nat)(h:Heap)(K:Value->Heap->Prop):Prop:=
 FCall P Pc #[.agg #[.bool a,.slice b c d]] h (fun a2 e=>∃ (f:Int),a2=I f/\Br (f==(0:Int)) (K (.agg #[.bool false,.slice none 0 0,.bool false,.slice none 0 0]) e)
 (Br (f==(-1:Int)) (FCall P Sh #[.agg #[.bool a,.slice b c d,.bool l,.slice m n o]] e (fun a3 g=>∃ (p:Bool) (q:OA) (r s:Nat),a3= .agg #[.bool p,.slice q r s]/\Heap.le e g/\FCall P Jj #[.agg #[.bool p,.slice q r s]] g (fun a4 i=>∃ (t:Bool) (u:OA) (v w:Nat),a4= .agg #[.bool t,.slice u v w]/\Heap.le g i/\FCall P Jj #[.agg #[.bool a,.slice b c d]] i (fun a5 j=>∃ (x:Bool) (y:OA) (z A:Nat),a5= .agg #[.bool x,.slice y z A]/\Heap.le i j/\FCall P S3 #[.agg #[.bool t,.slice u v w],.agg #[.bool x,.slice y z A]] j (fun a6 a0=>∃ (B:Bool) (C:OA) (D E:Nat) (F:Bool) (G:OA) (H J:Nat),a6= .agg #[.bool B,.slice C D E,.bool F,.slice G H J]/\Heap.le j a0/\K (.agg #[.bool B,.slice C D E,.bool F,.slice G H J]) a0)))))
 (FCall P Sh #[.agg #[.bool a,.slice b c d,.bool l,.slice m n o]] e (fun a7 k=>∃ (L:Bool) (M:OA) (N O:Nat),a7= .agg #[.bool L,.slice M N O]/\Heap.le e k/\FCall P S3 #[.agg #[.bool L,.slice M N O],.agg #[.bool a,.slice b c d]] k (fun a8 a1=>∃ (Q:Bool) (R:OA) (S T:Nat) (V:Bool) (W:OA) (X Z:Nat),a8= .agg #[.bool Q,.slice R S T,.bool V,.slice W X Z]/\Heap.le k a1/\K (.agg #[.bool Q,.slice R S T,.bool V,.slice W X Z]) a1)))))
theorem A1d(a:Bool)(b:OA)(d e:Nat)(f:Bool)(g:OA)(i j:Nat)(hvc:A2r Tryz.prog a b d e f g i j h K):FCall Tryz.prog Lh #[.agg #[.bool a,.slice b d e,.bool f,.slice g i j]] h K:=
 B7 Tryz.func146 (c:=C2 Tryz.f146) (by kernel_rfl) (rs:=[.cell 2 106]) (by kernel_rfl) (fa:=⟨[],[],[(5,([0,3,4,1,2,5,6,7],[[],[0],[0,1],[],[3],[0,1,2,3,4],[0,1,2,3,4,5],[0,1,2,3,4,5,6]])),(6,([0,2,3,1,4,5],[[],[0],[],[2],[0,1,2,3],[0,1,2,3,4]]))],[],[]⟩)
  (cfg:=⟨23,[1,2],none,[84,145,159,184],[],false⟩) (args:=[.agg #[.bool a,.slice b d e,.bool f,.slice g i j]]) (by kernel_rfl) (B0 Tryz.call84 (B0 Tryz.call145 (B0 Tryz.call159 (B0 Tryz.call184 Bodies.nil)))) (Eq.mp (by kernel_rfl) hvc)
def B9c(P:Program)(t:Bool)(u:OA)(v w:Nat)(x:Bool)(y:OA)(z A:Nat)(B:Bool)(C:OA)(D E:Nat)(F:Bool)(G:OA)(H J:Nat)(h:Heap)(K:Value->Heap->Prop):Prop:=
 FCall P Lh #[.agg #[.bool B,.slice C D E,.bool F,.slice G H J]] h (fun L a=>∃ (b:Bool) (c:OA) (d e:Nat) (f:Bool) (g:OA) (i j:Nat),L= .agg #[.bool b,.slice c d e,.bool f,.slice g i j]/\Heap.le h a/\FCall P Xr #[.agg #[.bool t,.slice u v w,.bool x,.slice y z A],.agg #[.bool b,.slice c d e,.bool f,.slice g i j]] a (fun M s=>∃ (k:Bool) (l:OA) (m n:Nat) (o:Bool) (p:OA) (q r:Nat),M= .agg #[.bool k,.slice l m n,.bool o,.slice p q r]/\Heap.le a s/\K (.agg #[.bool k,.slice l m n,.bool o,.slice p q r]) s))
theorem B47(a:Bool)(b:OA)(d e:Nat)(f:Bool)(g:OA)(i j:Nat)(k:Bool)(l:OA)(m n:Nat)(o:Bool)(p:OA)(q r:Nat)(hvc:B9c Tryz.prog a b d e f g i j k l m n o p q r h K):FCall Tryz.prog Xs #[.agg #[.bool a,.slice b d e,.bool f,.slice g i j],.agg #[.bool k,.slice l m n,.bool o,.slice p q r]] h K:=
 B7 Tryz.func72 (c:=C2 Tryz.f72) (by kernel_rfl) (rs:=[.cell 4 106]) (by kernel_rfl) (fa:=⟨[],[],[(1,([0,1,2,3,4],[[],[],[1],[0,1,2],[0,1,2,3]]))],[],[]⟩)
  (cfg:=⟨9,[2,3,4],none,[81,146],[],false⟩) (args:=[.agg #[.bool a,.slice b d e,.bool f,.slice g i j],.agg #[.bool k,.slice l m n,.bool o,.slice p q r]]) (by kernel_rfl) (B0 Tryz.call81 (B0 Tryz.call146 Bodies.nil)) (Eq.mp (by kernel_rfl) hvc)
end Go.Proofs.YtajkakhfcokljaaGreatDoor
