/-
  Texts of this proof, merged by a program of ours.
-/
import Derived.Test.YtajkakhfcokljaaGreatDoorProg
import Derived.Test.YtajkakhfcokljaaGreatDoorG05
import Derived.Test.YtajkakhfcokljaaGreatDoorG06
import Derived.Test.YtajkakhfcokljaaGreatDoorG13
import Derived.Test.YtajkakhfcokljaaGreatDoorG07
import Derived.Test.YtajkakhfcokljaaGreatDoorG10
import Derived.Test.YtajkakhfcokljaaGreatDoorG27
import Derived.Test.YtajkakhfcokljaaGreatDoorG09
import Derived.Test.YtajkakhfcokljaaGreatDoorG29
open Go.Proofs.Tryz
set_option linter.all false
open _root_.Go.Addr renaming add->C34
open _root_.ByteArray renaming toList->C36
open _root_.Go.Instr renaming storeAt->C35,buildSlice->C37
namespace Go.Proofs.YtajkakhfcokljaaGreatDoor
open Go
set_option maxRecDepth 100000
variable {h:Heap} {K:VP}
abbrev B4n:Nat:=55
abbrev A35:Nat:=95
abbrev Lg:Nat:=49
abbrev Lh:Nat:=42
abbrev Li:Nat:=44
abbrev B7z:Nat:=36
abbrev C0h:Nat:=56
abbrev C0i:Nat:=52
abbrev C1e:Nat:=126
abbrev Cu:Nat:=118
abbrev Gh:Nat:=96
abbrev B80:Nat:=48
abbrev A95:Nat:=120
abbrev Nm:Nat:=122
abbrev Hw:Nat:=165
abbrev B7x:Nat:=98
abbrev B7y:Nat:=119
abbrev B6s:Nat:=181
abbrev B8y:Nat:=41
abbrev B4m:Nat:=99
abbrev B6q:Nat:=37
abbrev B8z:Nat:=50
abbrev Lb:Nat:=43
abbrev Lc:Nat:=45
abbrev C0d:Nat:=124
abbrev C0f:Nat:=185
abbrev B7v:Nat:=51
abbrev C1a:Nat:=40
abbrev C0c:Nat:=57
abbrev C0e:Nat:=53
abbrev W4:Nat:=33
abbrev B4j:Nat:=34
abbrev C0a:Nat:=32
abbrev C18:Nat:=54
abbrev B8x:Nat:=10
abbrev B4l:Nat:=9
abbrev Ou:Nat:=7
abbrev B2v:Nat:=5
abbrev A72:Nat:=6
abbrev A94:Nat:=11
abbrev Xy:Nat:=8
abbrev B6p:Nat:=12
abbrev Xx:Nat:=111
abbrev C0o:Nat:=72
abbrev Jt:Nat:=173
abbrev B86:Nat:=145
def C03(P:Program)(f:Int)(d:Int)(g:OA)(i w:Nat)(h:Heap)(K:VP):Prop:=
 FCall P Nl #[.agg #[I f,I d,.slice g i w]] h (fun x l=>∃ (m:OA) (n o:Nat) (p:Bool),x= .tuple #[.slice m n o,.bool p]/\Br (!p) (K (.tuple #[.slice none 0 0,I 1]) l)
 (Br (f != d) (K (.tuple #[.slice none 0 0,I 4]) l)
 (∃ (j:LP) (q:LN),j [I 0] l/\
 ∀ a e,j [I a] e->Br (decide (a<f)) (∃ (k:LP) (r:LN),k [I 0] e/\
 ∀ b c,k [I b] c->Br (decide (b<a)) (∃ u,g=some u/\0<=B5 ((B5 (a*d))+b)/\B5 ((B5 (a*d))+b)<(i:Int)/\∃ (s:ByteArray),c.cell? (u.add ((B5 ((B5 (a*d))+b)).toNat*1))=some (.string s)/\∃ v,g=some v/\0<=B5 ((B5 (b*d))+a)/\B5 ((B5 (b*d))+a)<(i:Int)/\∃ (t:ByteArray),c.cell? (v.add ((B5 ((B5 (b*d))+a)).toNat*1))=some (.string t)/\Br (!(C36 s==C36 t)) (K (.tuple #[.slice none 0 0,I 4]) c)
 (k [I (B5 (b+1))] c/\r [I (B5 (b+1))] c<r [I b] c))
 (j [I (B5 (a+1))] c/\q [I (B5 (a+1))] c<q [I a] e))
 (K (.tuple #[.slice m n o,I 0]) e))))
theorem B41 a b c d e(hvc:C03 prog a b c d e h K):FCall prog A35 #[.agg #[I a,I b,.slice c d e]] h K:=
 C8 bod func95 [.tmp 2,.tmp 3] { loops:=[(7,⟨[22],[],[.int .i64 0],⟨([2,3,6,7]++Lrg 22 30),[]⟩⟩),(10,⟨[26],[],[.int .i64 0],⟨([2,3,7]++Lrg 26 25),[]⟩⟩)] } 53 [1] [67] [] (by kernel_rfl) hvc
def B1f(P:Program)(c:Int)(f:Int)(B:OA)(C D:Nat)(h:Heap)(K:VP):Prop:=
 FCall P A35 #[.agg #[I c,I f,.slice B C D]] h (fun E x=>∃ (g:OA) (i j:Nat) (d:Int),E= .tuple #[.slice g i j,I d]/\Br (d != (0:Int)) (K (.tuple #[.agg #[I 0,I 0,.slice none 0 0,.slice none 0 0],.bool false,I d]) x)
 (FCall P Gh #[.slice g i j,I c] x (fun F a=>∃ (e:OA) (k:Bool),F= .tuple #[.pointer e,.bool k]/\Br (!k) (K (.tuple #[.agg #[I 0,I 0,.slice none 0 0,.slice none 0 0],.bool false,I 0]) a)
 (∃ z,e=some z/\∃ (l:OA) (m n:Nat),a.cell? (z.add 5)=some (.slice l m n)/\FCall P Ay #[.slice l m n] a (fun G b=>∃ (o:OA) (p q:Nat),G= .slice o p q/\Heap.le a b/\∃ A,e=some A/\∃ (r:OA) (s t:Nat),b.cell? (A.add 6)=some (.slice r s t)/\FCall P Ay #[.slice r s t] b (fun H y=>∃ (u:OA) (v w:Nat),H= .slice u v w/\Heap.le b y/\K (.tuple #[.agg #[I c,I f,.slice o p q,.slice u v w],.bool true,I 0]) y))))))
theorem A6x a b c d e(hvc:B1f prog a b c d e h K):FCall prog Lg #[.agg #[I a,I b,.slice c d e]] h K:=
 C8 bod func49 [.cell 2 72,.tmp 3,.tmp 4] { orders:=[(7,((Lrg 0 8++[10,8,9,11]),[]))] } 46 [1,2,9] [95,96,97] [] (by kernel_rfl) hvc
def B1g(P:Program)(a:Int)(w:Int)(J:OA)(L M:Nat)(g2:OA)(N g3:Nat)(h:Heap)(K:VP):Prop:=
 FCall P Nl #[.agg #[I a,I w,.slice J L M]] h (fun g6 g7=>∃ (j:OA) (k O:Nat) (Q:Bool),g6= .tuple #[.slice j k O,.bool Q]/\FCall P Hs #[.slice g2 N g3] g7 (fun g8 q=>∃ (R:OA) (S g4:Nat) (T:Bool),g8= .tuple #[.slice R S g4,.bool T]/\Br (!Q) (K (.tuple #[.agg #[I 0,I 0,.slice none 0 0],I 1]) q)
 (Br (!T) (K (.tuple #[.agg #[I 0,I 0,.slice none 0 0],I 1]) q)
 (Br (w != a) (K (.tuple #[.agg #[I 0,I 0,.slice none 0 0],I 4]) q)
 (Br ((N:Int) != a) (K (.tuple #[.agg #[I 0,I 0,.slice none 0 0],I 4]) q)
 (∃ (x:LP) (V:LN),x [I 0,I 0,I 0,.slice none 0 0] q/\
 ∀ b D E F G H i,x [I b,I D,I E,.slice F G H] i->Br (decide (b<a)) (∃ r,j=some r/\0<=B5 ((B5 (b*a))+b)/\B5 ((B5 (b*a))+b)<(k:Int)/\∃ (W:Bool) (X:OA) (Z a0:Nat) (a1:Bool) (a2:OA) (a3 a4:Nat),i.cell? (C34 (r.add ((B5 ((B5 (b*a))+b)).toNat*4)) 0)=some (.bool W)/\i.cell? (C34 (r.add ((B5 ((B5 (b*a))+b)).toNat*4)) 1)=some (.slice X Z a0)/\i.cell? (C34 (r.add ((B5 ((B5 (b*a))+b)).toNat*4)) 2)=some (.bool a1)/\i.cell? (C34 (r.add ((B5 ((B5 (b*a))+b)).toNat*4)) 3)=some (.slice a2 a3 a4)/\FCall P Xm #[.agg #[.bool W,.slice X Z a0,.bool a1,.slice a2 a3 a4]] i (fun g9 f6=>∃ (a5:Bool),g9= .bool a5/\Br (!a5) (K (.tuple #[.agg #[I 0,I 0,.slice none 0 0],I 4]) f6)
 (∃ (y:LP) (a6:LN),y [I (B5 (b+1)),I D,I E,.slice F G H] f6/\
 ∀ f l m n o p g,y [I f,I l,I m,.slice n o p] g->Br (decide (f<a)) (∃ s,j=some s/\0<=B5 ((B5 (b*a))+f)/\B5 ((B5 (b*a))+f)<(k:Int)/\∃ (a7:Bool) (a8:OA) (a9 b0:Nat) (b1:Bool) (b2:OA) (b3 b4:Nat),g.cell? (C34 (s.add ((B5 ((B5 (b*a))+f)).toNat*4)) 0)=some (.bool a7)/\g.cell? (C34 (s.add ((B5 ((B5 (b*a))+f)).toNat*4)) 1)=some (.slice a8 a9 b0)/\g.cell? (C34 (s.add ((B5 ((B5 (b*a))+f)).toNat*4)) 2)=some (.bool b1)/\g.cell? (C34 (s.add ((B5 ((B5 (b*a))+f)).toNat*4)) 3)=some (.slice b2 b3 b4)/\FCall P Ga #[.agg #[.bool a7,.slice a8 a9 b0,.bool b1,.slice b2 b3 b4]] g (fun h0 B=>∃ (b5:Bool),h0= .bool b5/\Br (!b5) (K (.tuple #[.agg #[I 0,I 0,.slice none 0 0],I 4]) B)
 (y [I (B5 (f+1)),I l,I m,.slice n o p] B/\a6 [I (B5 (f+1)),I l,I m,.slice n o p] B<a6 [I f,I l,I m,.slice n o p] g)))
 (x [I (B5 (b+1)),I l,I m,.slice n o p] g/\V [I (B5 (b+1)),I l,I m,.slice n o p] g<V [I b,I D,I E,.slice F G H] i))))
 (∃ (z:LP) (b6:LN),z [I 0] i/\
 ∀ d v,z [I d] v->Br (decide (d<a)) (∃ (A:LP) (b7:LN),A [I 0] v/\
 ∀ c e,A [I c] e->Br (decide (c<a)) (∃ t,j=some t/\0<=B5 ((B5 (d*a))+c)/\B5 ((B5 (d*a))+c)<(k:Int)/\∃ (b8:Bool) (b9:OA) (c0 c1:Nat) (c2:Bool) (c3:OA) (c4 c5:Nat),e.cell? (C34 (t.add ((B5 ((B5 (d*a))+c)).toNat*4)) 0)=some (.bool b8)/\e.cell? (C34 (t.add ((B5 ((B5 (d*a))+c)).toNat*4)) 1)=some (.slice b9 c0 c1)/\e.cell? (C34 (t.add ((B5 ((B5 (d*a))+c)).toNat*4)) 2)=some (.bool c2)/\e.cell? (C34 (t.add ((B5 ((B5 (d*a))+c)).toNat*4)) 3)=some (.slice c3 c4 c5)/\∃ u,R=some u/\0<=c/\c<(S:Int)/\∃ (c6:Bool) (c7:OA) (c8 c9:Nat) (d0:Bool) (d1:OA) (d2 d3:Nat),e.cell? (C34 (u.add (c.toNat*4)) 0)=some (.bool c6)/\e.cell? (C34 (u.add (c.toNat*4)) 1)=some (.slice c7 c8 c9)/\e.cell? (C34 (u.add (c.toNat*4)) 2)=some (.bool d0)/\e.cell? (C34 (u.add (c.toNat*4)) 3)=some (.slice d1 d2 d3)/\FCall P A4n #[.agg #[.bool b8,.slice b9 c0 c1,.bool c2,.slice c3 c4 c5],.agg #[.bool c6,.slice c7 c8 c9,.bool d0,.slice d1 d2 d3]] e (fun h1 f7=>∃ (d4:Bool) (d5:OA) (d6 d7:Nat) (d8:Bool) (d9:OA) (e0 e1:Nat),h1= .agg #[.bool d4,.slice d5 d6 d7,.bool d8,.slice d9 e0 e1]/\Heap.le e f7/\∃ g1,j=some g1/\0<=B5 ((B5 (d*a))+c)/\B5 ((B5 (d*a))+c)<(k:Int)/\wpH P (C35 106 (.pointer (some (g1.add ((B5 ((B5 (d*a))+c)).toNat*4)))) (.agg #[.bool d4,.slice d5 d6 d7,.bool d8,.slice d9 e0 e1])) (fun _ f8=>A [I (B5 (c+1))] f8/\b7 [I (B5 (c+1))] f8<b7 [I c] e) f7))
 (z [I (B5 (d+1))] e/\b6 [I (B5 (d+1))] e<b6 [I d] v))
 (FCall P Ge #[.agg #[I a,I w,.slice J L M]] v (fun h2 f9=>∃ (e2:Int) (e3:Int) (e4:OA) (e5 e6:Nat) (g5:Int),h2= .tuple #[.agg #[I e2,I e3,.slice e4 e5 e6],I g5]/\FCall P Ay #[.slice j k O] f9 (fun h3 C=>∃ (e7:OA) (e8 e9:Nat),h3= .slice e7 e8 e9/\Heap.le f9 C/\FCall P A93 #[.agg #[I a,I a,.slice e7 e8 e9],.agg #[I e2,I e3,.slice e4 e5 e6]] C (fun h4 g0=>∃ (f0:Int) (f1:Int) (f2:OA) (f3 f4:Nat) (f5:Int),h4= .tuple #[.agg #[I f0,I f1,.slice f2 f3 f4],I f5]/\Heap.le C g0/\K (.tuple #[.agg #[I f0,I f1,.slice f2 f3 f4],I f5]) g0)))))))))))
theorem A6y a b c d e f g i(hvc:B1g prog a b c d e f g i h K):FCall prog Lh #[.agg #[I a,I b,.slice c d e,.slice f g i]] h K:=
 C8 bod func42 [.cell 2 25,.tmp 3] ⟨[(9,⟨[51],[(2,3)],[.int .i64 0,.int .i64 0,.int .i64 0,.slice none 0 0],⟨([3,9,10]++Lrg 51 33),[2]⟩⟩),(14,⟨[10],[(2,3)],[.int .i64 0,.int .i64 0,.int .i64 0,.slice none 0 0],⟨([3,10]++Lrg 67 16),[2]⟩⟩),(20,⟨[85],[],[.int .i64 0],⟨([11,12]++Lrg 85 29),[]⟩⟩),(23,⟨[89],[],[.int .i64 0],⟨([12]++Lrg 89 24),[]⟩⟩)],[],[(29,([0,1,2,5,3,4,6,7,8,9,10],[]))],[],[]⟩ 129 [1,2,13] [26,47,67,81,97,104,105,106] [] (by kernel_rfl) hvc
def B5o(P:Program)(u:Int)(v:Int)(w:OA)(x y:Nat)(z:Int)(A:Int)(B:OA)(C D:Nat)(g:OA)(d E:Nat)(h:Heap)(K:VP):Prop:=
 FCall P Lh #[.agg #[I z,I A,.slice B C D,.slice g d E]] h (fun F c=>∃ (i:Int) (j:Int) (k:OA) (l m:Nat) (n:Int),F= .tuple #[.agg #[I i,I j,.slice k l m],I n]/\Br (n != (0:Int)) (K (.bool false) c)
 (Br (i != u) (K (.bool false) c)
 (Br (j != v) (K (.bool false) c)
 (FCall P Xx #[.slice k l m,.slice w x y] c (fun G r=>∃ (o:Bool),G= .bool o/\Br (!o) (K (.bool false) r)
 (∃ (e:LP) (p:LN),e [I 0] r/\
 ∀ a b,e [I a] b->Br (decide (a<(d:Int))) (∃ s,g=some s/\0<=a/\a<(d:Int)/\∃ (q:ByteArray),b.cell? (s.add (a.toNat*1))=some (.string q)/\FCall P A2x #[.string q] b (fun H f=>∃ t,H=I t/\Br (decide (t<(0:Int))) (K (.bool false) f)
 (e [I (B5 (a+1))] f/\p [I (B5 (a+1))] f<p [I a] b)))
 (K (.bool true) b)))))))
theorem B1h a b c d e f g i j k l m n(hvc:B5o prog a b c d e f g i j k l m n h K):FCall prog Li #[.agg #[I a,I b,.slice c d e],.agg #[I f,I g,.slice i j k,.slice l m n]] h K:=
 C8 bod func44 [.tmp 4] { loops:=[(5,⟨[41],[],[.int .i64 0],⟨([4,8]++Lrg 41 8),[]⟩⟩)] } 49 [2,3,5] [42,58,111] [] (by kernel_rfl) hvc
def He(P:Program)(i:OA)(j k:Nat)(a:Int)(h:Heap)(K:VP):Prop:=
 FCall P Je #[.slice i j k,I a] h (fun l m=>∃ (b:OA),l= .pointer b/\FCall P Ru #[I 1] m (fun n o=>∃ (c:Bool) (d:OA) (e f:Nat),n= .agg #[.bool c,.slice d e f]/\wpH P (Instr.box 173 (.agg #[I a,I 0,.pointer b,.bool c,.slice d e f,.slice none 0 0,.slice none 0 0])) (fun p q=>∃ (g:Addr),p= .pointer (some g)/\K (.pointer (some g)) q) o))
theorem Md a b c d(hvc:He prog a b c d h K):FCall prog Cu #[.slice a b c,I d] h K:=
 C8 bod func118 [.tmp 4] an0 12 [] [68,139] [1000000000] (by kernel_rfl) hvc
def Wc(P:Program)(d7:OA)(d8 d9:Nat)(b:Int)(h:Heap)(K:VP):Prop:=
 FCall P Cu #[.slice d7 d8 d9,I b] h (fun e4 e5=>∃ (c:OA),e4= .pointer c/\wpH P (Instr.makeSlice 95 (I (B5 (b*b))) (I (B5 (b*b)))) (fun e6 e7=>∃ (z:OA) (A B:Nat),e6= .slice z A B/\∃ c5,c=some c5/\wpH P (C35 95 (.pointer (some (c5.add 5))) (.slice z A B)) (fun _ e8=>wpH P (Instr.makeSlice 95 (I b) (I b)) (fun e9 f0=>∃ (C:OA) (D E:Nat),e9= .slice C D E/\∃ c6,c=some c6/\wpH P (C35 95 (.pointer (some (c6.add 6))) (.slice C D E)) (fun _ f1=>∃ (r:LP) (s:LN),r [.bool true,I 0] f1/\
 ∀ n a p,r [.bool n,I a] p->Br (decide (a<b)) (FCall P A95 #[.pointer c,I a,I a] p (fun f2 f3=>∃ (e:Bool) (f:OA) (g i:Nat) (j:Bool) (k:OA) (l m:Nat),f2= .agg #[.bool e,.slice f g i,.bool j,.slice k l m]/\FCall P Hw #[.pointer c] f3 (fun f4 f5=>∃ (e0:Int) (F:Bool),f4= .tuple #[I e0,.bool F]/\∃ (u:LP),(FCall P A2z #[.agg #[.bool e,.slice f g i,.bool j,.slice k l m]] f5 (fun f6 b8=>∃ c7,f6=I c7/\Br (decide (c7<(0:Int))) (K (.tuple #[.pointer c,.bool false]) b8)
 (FCall P Ga #[.agg #[.bool e,.slice f g i,.bool j,.slice k l m]] b8 (fun f7 w=>∃ (G:Bool),f7= .bool G/\Br G (Br F (K (.tuple #[.pointer c,.bool false]) w)
 (u [.bool n] w))
 (u [.bool n] w)))))/\
 ∀ q t,u [.bool q] t->∃ c8,c=some c8/\∃ (H:OA) (J e1:Nat),t.cell? (c8.add 5)=some (.slice H J e1)/\FCall P Xl #[I 1] t (fun f8 b9=>∃ (L:Bool) (M:OA) (N O:Nat) (Q:Bool) (R:OA) (S T:Nat),f8= .agg #[.bool L,.slice M N O,.bool Q,.slice R S T]/\Heap.le t b9/\∃ c9,H=some c9/\0<=B5 ((B5 (a*b))+a)/\B5 ((B5 (a*b))+a)<(J:Int)/\wpH P (C35 106 (.pointer (some (c9.add ((B5 ((B5 (a*b))+a)).toNat*4)))) (.agg #[.bool L,.slice M N O,.bool Q,.slice R S T])) (fun _ c0=>∃ d0,c=some d0/\∃ (V:OA) (W e2:Nat),c0.cell? (d0.add 6)=some (.slice V W e2)/\∃ d1,V=some d1/\0<=a/\a<(W:Int)/\wpH P (C35 106 (.pointer (some (d1.add (a.toNat*4)))) (.agg #[.bool e,.slice f g i,.bool j,.slice k l m])) (fun _ f9=>FCall P Ga #[.agg #[.bool e,.slice f g i,.bool j,.slice k l m]] f9 (fun g0 x=>∃ (X:Bool),g0= .bool X/\Br X (∃ d2,c=some d2/\∃ d3,x.cell? (d2.add 1)=some (I d3)/\∃ d4,c=some d4/\wpH P (C35 3 (.pointer (some (d4.add 1))) (I (B5 (d3+1)))) (fun _ c1=>r [.bool q,I (B5 (a+1))] c1/\s [.bool q,I (B5 (a+1))] c1<s [.bool n,I a] p) x)
 (∃ (v:LP) (Z:LN),v [I (B5 (a+1))] x/\
 ∀ d o,v [I d] o->Br (decide (d<b)) (∃ d5,c=some d5/\∃ (a0:OA) (a1 e3:Nat),o.cell? (d5.add 5)=some (.slice a0 a1 e3)/\FCall P A95 #[.pointer c,I d,I a] o (fun g1 y=>∃ (a2:Bool) (a3:OA) (a4 a5:Nat) (a6:Bool) (a7:OA) (a8 a9:Nat),g1= .agg #[.bool a2,.slice a3 a4 a5,.bool a6,.slice a7 a8 a9]/\Heap.le o y/\FCall P A4o #[.agg #[.bool a2,.slice a3 a4 a5,.bool a6,.slice a7 a8 a9],.agg #[.bool e,.slice f g i,.bool j,.slice k l m]] y (fun g2 c2=>∃ (b0:Bool) (b1:OA) (b2 b3:Nat) (b4:Bool) (b5:OA) (b6 b7:Nat),g2= .agg #[.bool b0,.slice b1 b2 b3,.bool b4,.slice b5 b6 b7]/\Heap.le y c2/\∃ d6,a0=some d6/\0<=B5 ((B5 (d*b))+a)/\B5 ((B5 (d*b))+a)<(a1:Int)/\wpH P (C35 106 (.pointer (some (d6.add ((B5 ((B5 (d*b))+a)).toNat*4)))) (.agg #[.bool b0,.slice b1 b2 b3,.bool b4,.slice b5 b6 b7])) (fun _ c3=>v [I (B5 (d+1))] c3/\Z [I (B5 (d+1))] c3<Z [I d] o) c2)))
 (FCall P Nm #[.pointer c] o (fun g3 c4=>g3= .tuple #[]/\r [.bool q,I (B5 (a+1))] c4/\s [.bool q,I (B5 (a+1))] c4<s [.bool n,I a] p))))) c0) b9))))
 (K (.tuple #[.pointer c,.bool n]) p)) f0) e8) e7) e5)
theorem Zd a b c d(hvc:Wc prog a b c d h K):FCall prog Gh #[.slice a b c,I d] h K:=
 C8 bod func96 [.tmp 4,.tmp 5] ⟨[(6,⟨[7,29],[],[.bool false,.int .i64 0],⟨([7,8,9,10,11,12]++Lrg 29 75),[9]⟩⟩),(17,⟨[12],[],[.int .i64 0],⟨([12]++Lrg 80 21),[]⟩⟩)],[(12,⟨[7],[],[.bool false],⟨([7]++Lrg 41 10),[]⟩⟩)],[(19,((Lrg 0 12++[13,12,14,15,16]),[]))],[],[]⟩ 106 [9] [72,106,118,120,121,122,165,166] [122] (by kernel_rfl) hvc
def EAt(P:Program)(e:OA)(a:Int)(d:Int)(h:Heap)(K:VP):Prop:=
 ∃ a1,e=some a1/\∃ (j:OA),h.cell? (a1.add 2)=some (.pointer j)/\∃ g,e=some g/\∃ (k:Bool) (l:OA) (m n:Nat),h.cell? (C34 (g.add 3) 0)=some (.bool k)/\h.cell? (C34 (g.add 3) 1)=some (.slice l m n)/\∃ a2,e=some a2/\∃ (o:OA),h.cell? (a2.add 2)=some (.pointer o)/\∃ a3,o=some a3/\∃ (p:OA) (q a4:Nat),h.cell? (a3.add 2)=some (.slice p q a4)/\∃ c,p=some c/\0<=a/\a<(q:Int)/\∃ (r:Bool) (s:OA) (t u:Nat) (v:Bool) (w:OA) (x y:Nat),h.cell? (C34 (c.add (a.toNat*4)) 0)=some (.bool r)/\h.cell? (C34 (c.add (a.toNat*4)) 1)=some (.slice s t u)/\h.cell? (C34 (c.add (a.toNat*4)) 2)=some (.bool v)/\h.cell? (C34 (c.add (a.toNat*4)) 3)=some (.slice w x y)/\FCall P Rx #[.pointer j,I a] h (fun a6 b=>∃ (z:OA) (A a5:Nat),a6= .slice z A a5/\Heap.le h b/\∃ i,z=some i/\0<=d/\d<(A:Int)/\∃ (B:Bool) (C:OA) (D E:Nat),b.cell? (C34 (i.add (d.toNat*2)) 0)=some (.bool B)/\b.cell? (C34 (i.add (d.toNat*2)) 1)=some (.slice C D E)/\FCall P U7 #[.agg #[.bool B,.slice C D E],.agg #[.bool k,.slice l m n]] b (fun a7 f=>∃ (F:Bool) (G:OA) (H J:Nat) (L:Bool) (M:OA) (N O:Nat),a7= .agg #[.bool F,.slice G H J,.bool L,.slice M N O]/\Heap.le b f/\FCall P A4o #[.agg #[.bool F,.slice G H J,.bool L,.slice M N O],.agg #[.bool r,.slice s t u,.bool v,.slice w x y]] f (fun a8 a0=>∃ (Q:Bool) (R:OA) (S T:Nat) (V:Bool) (W:OA) (X Z:Nat),a8= .agg #[.bool Q,.slice R S T,.bool V,.slice W X Z]/\Heap.le f a0/\K (.agg #[.bool Q,.slice R S T,.bool V,.slice W X Z]) a0)))
theorem C02 a b c(hvc:EAt prog a b c h K):FCall prog A95 #[.pointer a,I b,I c] h K:=
 C8 bod func120 [.cell 6 106] { orders:=[(1,(([0,1,2,3,4,6,9,10,11,12]++Lrg 14 10++[5,7,8,13,24,25]),[]))] } 32 [6] [72,132,144] [] (by kernel_rfl) hvc
def A5d(P:Program)(c:OA)(h:Heap)(K:VP):Prop:=
 ∃ y,c=some y/\∃ a,h.cell? (y.add 1)=some (I a)/\∃ (e:LP) (j:LN),e [I (B5 (a+1))] h/\
 ∀ d b,e [I d] b->∃ z,c=some z/\∃ A,b.cell? (z.add 0)=some (I A)/\Br (decide (d<A)) (∃ B,c=some B/\∃ (k:OA),b.cell? (B.add 2)=some (.pointer k)/\∃ g,c=some g/\∃ (l:Bool) (m:OA) (n o:Nat),b.cell? (C34 (g.add 3) 0)=some (.bool l)/\b.cell? (C34 (g.add 3) 1)=some (.slice m n o)/\FCall P Ya #[.pointer k,I d,I a,I a,.agg #[.bool l,.slice m n o]] b (fun J w=>J= .tuple #[]/\e [I (B5 (d+1))] w/\j [I (B5 (d+1))] w<j [I d] b))
 (∃ C,c=some C/\∃ (p:OA),b.cell? (C.add 2)=some (.pointer p)/\FCall P Rx #[.pointer p,I a] b (fun L f=>∃ (q:OA) (r H:Nat),L= .slice q r H/\∃ i,q=some i/\0<=a/\a<(r:Int)/\∃ (s:Bool) (t:OA) (u v:Nat),f.cell? (C34 (i.add (a.toNat*2)) 0)=some (.bool s)/\f.cell? (C34 (i.add (a.toNat*2)) 1)=some (.slice t u v)/\∃ D,c=some D/\wpH P (C35 102 (.pointer (some (D.add 3))) (.agg #[.bool s,.slice t u v])) (fun _ x=>∃ E,c=some E/\∃ F,x.cell? (E.add 1)=some (I F)/\∃ G,c=some G/\wpH P (C35 3 (.pointer (some (G.add 1))) (I (B5 (F+1)))) (fun _ M=>K (.tuple #[]) M) x) f))
theorem A3s a(hvc:A5d prog a h K):FCall prog Nm #[.pointer a] h K:=
 C8 bod func122 [] { loops:=[(2,⟨[3],[],[.int .i64 0],⟨([3]++Lrg 10 20),[]⟩⟩)] } 49 [] [143,144] [143] (by kernel_rfl) hvc
def A5c(P:Program)(e:OA)(h:Heap)(K:VP):Prop:=
 ∃ s,e=some s/\∃ t,h.cell? (s.add 1)=some (I t)/\∃ (g:LP) (j:LN),g [I (B5 (t+1))] h/\
 ∀ b a,g [I b] a->∃ u,e=some u/\∃ v,a.cell? (u.add 0)=some (I v)/\Br (decide (b<v)) (∃ w,e=some w/\∃ (k:OA),a.cell? (w.add 2)=some (.pointer k)/\∃ x,e=some x/\∃ d,a.cell? (x.add 1)=some (I d)/\FCall P Rx #[.pointer k,I b] a (fun z c=>∃ (l:OA) (m y:Nat),z= .slice l m y/\Heap.le a c/\∃ i,l=some i/\0<=d/\d<(m:Int)/\∃ (n:Bool) (o:OA) (p q:Nat),c.cell? (C34 (i.add (d.toNat*2)) 0)=some (.bool n)/\c.cell? (C34 (i.add (d.toNat*2)) 1)=some (.slice o p q)/\FCall P G0 #[.agg #[.bool n,.slice o p q]] c (fun A f=>∃ (r:Bool),A= .bool r/\Heap.le c f/\Br (!r) (K (.tuple #[I b,.bool true]) f)
 (g [I (B5 (b+1))] f/\j [I (B5 (b+1))] f<j [I b] a))))
 (K (.tuple #[I 0,.bool false]) a)
theorem A3r a(hvc:A5c prog a h K):FCall prog Hw #[.pointer a] h K:=
 C8 bod func165 [.tmp 2,.tmp 3] ⟨[(2,⟨[4],[],[.int .i64 0],⟨([2,3,4]++Lrg 10 23),[]⟩⟩)],[],[(4,([0,1,2,3,4,6,7,8,9,5,10,11,12,13],[]))],[],[]⟩ 33 [] [138,144] [] (by kernel_rfl) hvc
def B1a(P:Program)(w:Int)(H:Int)(i2:OA)(i3 i4:Nat)(i5:OA)(i6 i7:Nat)(h:Heap)(K:VP):Prop:=
 FCall P A33 #[.agg #[I w,I H,.slice i2 i3 i4]] h (fun j4 j5=>∃ (g:OA) (i J:Nat) (L:Bool),j4= .tuple #[.slice g i J,.bool L]/\FCall P Xs #[.slice i5 i6 i7] j5 (fun j6 p=>∃ (M:OA) (f i8:Nat) (N:Bool),j6= .tuple #[.slice M f i8,.bool N]/\Br (!L) (K (.tuple #[.agg #[I 0,I 0,.slice none 0 0],I 1]) p)
 (Br (!N) (K (.tuple #[.agg #[I 0,I 0,.slice none 0 0],I 1]) p)
 (Br (w != H) (K (.tuple #[.agg #[I 0,I 0,.slice none 0 0],I 4]) p)
 (Br ((f:Int) != w) (K (.tuple #[.agg #[I 0,I 0,.slice none 0 0],I 4]) p)
 (FCall P Qe #[I (f:Int),I (f:Int)] p (fun j7 j8=>∃ (x:OA) (y O:Nat),j7= .slice x y O/\∃ (z:LP) (Q:LN),z [I 0,I 0,I 0,.slice none 0 0] j8/\
 ∀ a C D E F G v,z [I a,I C,I D,.slice E F G] v->Br (decide (a<(f:Int))) (∃ (A:LP) (R:LN),A [I a,I C,I D,.slice E F G] v/\
 ∀ b k l m n o c,A [I b,I k,I l,.slice m n o] c->Br (decide (b<(f:Int))) (∃ (j:LP),(Br (b==a) (∃ h2,g=some h2/\0<=a/\a<(i:Int)/\∃ (S:OA) (T i9:Nat),c.cell? (h2.add (a.toNat*1))=some (.slice S T i9)/\∃ q,S=some q/\0<=b/\b<(T:Int)/\∃ (V:Bool) (W:OA) (X Z:Nat) (a0:Bool) (a1:OA) (a2 a3:Nat),c.cell? (C34 (q.add (b.toNat*4)) 0)=some (.bool V)/\c.cell? (C34 (q.add (b.toNat*4)) 1)=some (.slice W X Z)/\c.cell? (C34 (q.add (b.toNat*4)) 2)=some (.bool a0)/\c.cell? (C34 (q.add (b.toNat*4)) 3)=some (.slice a1 a2 a3)/\FCall P C16 #[I 1] c (fun j9 B=>∃ (a4:Bool) (a5:OA) (a6 a7:Nat) (a8:Bool) (a9:OA) (b0 b1:Nat),j9= .agg #[.bool a4,.slice a5 a6 a7,.bool a8,.slice a9 b0 b1]/\Heap.le c B/\FCall P A32 #[.agg #[.bool V,.slice W X Z,.bool a0,.slice a1 a2 a3],.agg #[.bool a4,.slice a5 a6 a7,.bool a8,.slice a9 b0 b1]] B (fun k0 e=>∃ h3,k0=I h3/\Heap.le B e/\Br (h3 != (0:Int)) (j [.bool true] e)
 (Br (decide (b>a)) (∃ h4,g=some h4/\0<=a/\a<(i:Int)/\∃ (b2:OA) (b3 j0:Nat),e.cell? (h4.add (a.toNat*1))=some (.slice b2 b3 j0)/\∃ r,b2=some r/\0<=b/\b<(b3:Int)/\∃ (b4:Bool) (b5:OA) (b6 b7:Nat) (b8:Bool) (b9:OA) (c0 c1:Nat),e.cell? (C34 (r.add (b.toNat*4)) 0)=some (.bool b4)/\e.cell? (C34 (r.add (b.toNat*4)) 1)=some (.slice b5 b6 b7)/\e.cell? (C34 (r.add (b.toNat*4)) 2)=some (.bool b8)/\e.cell? (C34 (r.add (b.toNat*4)) 3)=some (.slice b9 c0 c1)/\FCall P Ee #[.agg #[.bool b4,.slice b5 b6 b7,.bool b8,.slice b9 c0 c1]] e (fun k1 g8=>∃ h5,k1=I h5/\Heap.le e g8/\j [.bool (h5 != (0:Int))] g8))
 (j [.bool false] e)))))
 (Br (decide (b>a)) (∃ h6,g=some h6/\0<=a/\a<(i:Int)/\∃ (c2:OA) (c3 j1:Nat),c.cell? (h6.add (a.toNat*1))=some (.slice c2 c3 j1)/\∃ s,c2=some s/\0<=b/\b<(c3:Int)/\∃ (c4:Bool) (c5:OA) (c6 c7:Nat) (c8:Bool) (c9:OA) (d0 d1:Nat),c.cell? (C34 (s.add (b.toNat*4)) 0)=some (.bool c4)/\c.cell? (C34 (s.add (b.toNat*4)) 1)=some (.slice c5 c6 c7)/\c.cell? (C34 (s.add (b.toNat*4)) 2)=some (.bool c8)/\c.cell? (C34 (s.add (b.toNat*4)) 3)=some (.slice c9 d0 d1)/\FCall P Ee #[.agg #[.bool c4,.slice c5 c6 c7,.bool c8,.slice c9 d0 d1]] c (fun k2 g9=>∃ h7,k2=I h7/\Heap.le c g9/\j [.bool (h7 != (0:Int))] g9))
 (j [.bool false] c)))/\
 ∀ h8 d,j [.bool h8] d->Br h8 (K (.tuple #[.agg #[I 0,I 0,.slice none 0 0],I 4]) d)
 (∃ h9,x=some h9/\0<=a/\a<(y:Int)/\∃ (d2:OA) (d3 j2:Nat),d.cell? (h9.add (a.toNat*1))=some (.slice d2 d3 j2)/\∃ t,M=some t/\0<=a/\a<(f:Int)/\∃ (d4:Bool) (d5:OA) (d6 d7:Nat) (d8:Bool) (d9:OA) (e0 e1:Nat),d.cell? (C34 (t.add (a.toNat*4)) 0)=some (.bool d4)/\d.cell? (C34 (t.add (a.toNat*4)) 1)=some (.slice d5 d6 d7)/\d.cell? (C34 (t.add (a.toNat*4)) 2)=some (.bool d8)/\d.cell? (C34 (t.add (a.toNat*4)) 3)=some (.slice d9 e0 e1)/\∃ i0,g=some i0/\0<=b/\b<(i:Int)/\∃ (e2:OA) (e3 j3:Nat),d.cell? (i0.add (b.toNat*1))=some (.slice e2 e3 j3)/\∃ u,e2=some u/\0<=a/\a<(e3:Int)/\∃ (e4:Bool) (e5:OA) (e6 e7:Nat) (e8:Bool) (e9:OA) (f0 f1:Nat),d.cell? (C34 (u.add (a.toNat*4)) 0)=some (.bool e4)/\d.cell? (C34 (u.add (a.toNat*4)) 1)=some (.slice e5 e6 e7)/\d.cell? (C34 (u.add (a.toNat*4)) 2)=some (.bool e8)/\d.cell? (C34 (u.add (a.toNat*4)) 3)=some (.slice e9 f0 f1)/\FCall P Xq #[.agg #[.bool d4,.slice d5 d6 d7,.bool d8,.slice d9 e0 e1],.agg #[.bool e4,.slice e5 e6 e7,.bool e8,.slice e9 f0 f1]] d (fun k3 h0=>∃ (f2:Bool) (f3:OA) (f4 f5:Nat) (f6:Bool) (f7:OA) (f8 f9:Nat),k3= .agg #[.bool f2,.slice f3 f4 f5,.bool f6,.slice f7 f8 f9]/\Heap.le d h0/\∃ i1,d2=some i1/\0<=b/\b<(d3:Int)/\wpH P (C35 66 (.pointer (some (i1.add (b.toNat*4)))) (.agg #[.bool f2,.slice f3 f4 f5,.bool f6,.slice f7 f8 f9])) (fun _ h1=>A [I (B5 (b+1)),I k,I l,.slice m n o] h1/\R [I (B5 (b+1)),I k,I l,.slice m n o] h1<R [I b,I k,I l,.slice m n o] c) h0)))
 (z [I (B5 (a+1)),I k,I l,.slice m n o] c/\Q [I (B5 (a+1)),I k,I l,.slice m n o] c<Q [I a,I C,I D,.slice E F G] v))
 (FCall P Qd #[.slice g i J,.slice x y O] v (fun k4 k5=>∃ (g0:OA) (g1 g2:Nat),k4= .slice g0 g1 g2/\FCall P A34 #[.slice g0 g1 g2] k5 (fun k6 k7=>∃ (g3:Int) (g4:Int) (g5:OA) (g6 g7:Nat),k6= .agg #[I g3,I g4,.slice g5 g6 g7]/\K (.tuple #[.agg #[I g3,I g4,.slice g5 g6 g7],I 0]) k7))))))))))
theorem A6w a b c d e f g i(hvc:B1a prog a b c d e f g i h K):FCall prog Lb #[.agg #[I a,I b,.slice c d e,.slice f g i]] h K:=
 C8 bod func43 [.cell 2 25,.tmp 3] ⟨[(10,⟨[10],[(2,3)],[.int .i64 0,.int .i64 0,.int .i64 0,.slice none 0 0],⟨([3,10,11]++Lrg 52 61),[2]⟩⟩),(13,⟨[11],[(2,3)],[.int .i64 0,.int .i64 0,.int .i64 0,.slice none 0 0],⟨([3,11]++Lrg 58 55),[2]⟩⟩)],[(16,⟨[93],[],[.bool false],⟨(Lrg 63 31),[]⟩⟩)],[],[],[]⟩ 117 [1,2] [35,38,39,64,92,107,108,109,110] [] (by kernel_rfl) hvc
def B5l(P:Program)(J:Int)(L:Int)(M:OA)(l a1:Nat)(N:Int)(O:Int)(Q:OA)(R S:Nat)(m:OA)(g T:Nat)(h:Heap)(K:VP):Prop:=
 FCall P Lb #[.agg #[I N,I O,.slice Q R S,.slice m g T]] h (fun W d=>∃ (n:Int) (o:Int) (p:OA) (f V:Nat) (q:Int),W= .tuple #[.agg #[I n,I o,.slice p f V],I q]/\Br (q != (0:Int)) (K (.bool false) d)
 (Br (n != J) (K (.bool false) d)
 (Br (o != L) (K (.bool false) d)
 (Br ((f:Int) != (l:Int)) (K (.bool false) d)
 (∃ (i:LP) (r:LN),i [I 0] d/\
 ∀ a b,i [I a] b->Br (decide (a<(f:Int))) (∃ E,p=some E/\0<=a/\a<(f:Int)/\∃ (s:ByteArray),b.cell? (E.add (a.toNat*1))=some (.string s)/\∃ F,M=some F/\0<=a/\a<(l:Int)/\∃ (t:ByteArray),b.cell? (F.add (a.toNat*1))=some (.string t)/\Br (!(C36 s==C36 t)) (K (.bool false) b)
 (i [I (B5 (a+1))] b/\r [I (B5 (a+1))] b<r [I a] b))
 (∃ (j:LP) (u:LN),j [I 0] b/\
 ∀ c e,j [I c] e->Br (decide (c<(g:Int))) (∃ G,m=some G/\0<=c/\c<(g:Int)/\∃ (v:ByteArray),e.cell? (G.add (c.toNat*1))=some (.string v)/\FCall P A91 #[.string v] e (fun X Z=>∃ (w:Bool) (x:OA) (y z:Nat) (A:Bool) (B:OA) (C D:Nat),X= .agg #[.bool w,.slice x y z,.bool A,.slice B C D]/\FCall P Ee #[.agg #[.bool w,.slice x y z,.bool A,.slice B C D]] Z (fun a0 k=>∃ H,a0=I H/\Br (decide (H<(0:Int))) (K (.bool false) k)
 (j [I (B5 (c+1))] k/\u [I (B5 (c+1))] k<u [I c] e))))
 (K (.bool true) e)))))))
theorem B1b a b c d e f g i j k l m n(hvc:B5l prog a b c d e f g i j k l m n h K):FCall prog Lc #[.agg #[I a,I b,.slice c d e],.agg #[I f,I g,.slice i j k,.slice l m n]] h K:=
 C8 bod func45 [.tmp 4] { loops:=[(5,⟨[7],[],[.int .i64 0],⟨([4,7]++Lrg 39 18),[]⟩⟩),(10,⟨[8],[],[.int .i64 0],⟨([4,8]++Lrg 57 15),[]⟩⟩)] } 72 [2,3,5] [39,43,91] [] (by kernel_rfl) hvc
def B5a(P:Program) (h:Heap)(K:VP):Prop:=
 wpH P (C37 23 4 #[(0,.string ({ data:=#[52] }:ByteArray)),(1,.string ({ data:=#[50] }:ByteArray)),(2,.string ({ data:=#[50] }:ByteArray)),(3,.string ({ data:=#[49] }:ByteArray))]) (fun O Q=>∃ (c:OA) (d e:Nat),O= .slice c d e/\FCall P Lg #[.agg #[I 2,I 2,.slice c d e]] Q (fun R S=>∃ (C:Int) (D:Int) (f:OA) (g i:Nat) (j:OA) (k l:Nat) (m:Bool) (n:Int),R= .tuple #[.agg #[I C,I D,.slice f g i,.slice j k l],.bool m,I n]/\wpH P (C37 23 4 #[(0,.string ({ data:=#[48] }:ByteArray)),(1,.string ({ data:=#[49] }:ByteArray)),(2,.string ({ data:=#[49] }:ByteArray)),(3,.string ({ data:=#[48] }:ByteArray))]) (fun T V=>∃ (o:OA) (p q:Nat),T= .slice o p q/\FCall P Lg #[.agg #[I 2,I 2,.slice o p q]] V (fun W a=>∃ (E:Int) (F:Int) (G:OA) (H J:Nat) (L:OA) (M N:Nat) (r:Bool) (s:Int),W= .tuple #[.agg #[I E,I F,.slice G H J,.slice L M N],.bool r,I s]/\Br m (Br (n==(0:Int)) (wpH P (C37 23 2 #[(0,.string ({ data:=#[52] }:ByteArray)),(1,.string ({ data:=#[48] }:ByteArray))]) (fun X Z=>∃ (t:OA) (u v:Nat),X= .slice t u v/\FCall P Ct #[.slice j k l,.slice t u v] Z (fun a0 B=>∃ (w:Bool),a0= .bool w/\Br w (wpH P (C37 23 4 #[(0,.string ({ data:=#[49] }:ByteArray)),(1,.string ({ data:=#[48] }:ByteArray)),(2,.string ({ data:=#[49,47,50] }:ByteArray)),(3,.string ({ data:=#[49] }:ByteArray))]) (fun a1 a2=>∃ (x:OA) (y z:Nat),a1= .slice x y z/\FCall P Ct #[.slice f g i,.slice x y z] a2 (fun a3 b=>∃ (A:Bool),a3= .bool A/\Br A (Br (!r) (K (.bool (s==(0:Int))) b)
 (K (.bool false) b))
 (K (.bool false) b))) B)
 (K (.bool false) B))) a)
 (K (.bool false) a))
 (K (.bool false) a))) S)) h
theorem B0q (hvc:B5a prog  h K):FCall prog W4 #[] h K:=
 C8 bod func33 [.tmp 0] an0 47 [1,4] [49,60] [] (by kernel_rfl) hvc
def Wb(P:Program)(r:Int)(s:Int)(t:OA)(u v:Nat)(b:Int)(c:Int)(d:OA)(e f:Nat)(g:OA)(a i:Nat)(h:Heap)(K:VP):Prop:=
 FCall P W5 #[.agg #[I r,I s,.slice t u v],I 5,I 12] h (fun a4 Z=>∃ (A:Bool),a4= .bool A/\Br (!A) (FCall P W4 #[] Z (fun a5 a6=>∃ (B:Bool),a5= .bool B/\K (.bool B) a6))
 (FCall P W5 #[.agg #[I b,I c,.slice d e f],I 5,I 12] Z (fun a7 x=>∃ (C:Bool),a7= .bool C/\Br (!C) (FCall P W4 #[] x (fun a8 a9=>∃ (D:Bool),a8= .bool D/\K (.bool D) a9))
 (Br (decide ((a:Int)>(8:Int))) (FCall P W4 #[] x (fun b0 b1=>∃ (E:Bool),b0= .bool E/\K (.bool E) b1))
 (FCall P Qc #[I 12,.slice g a i] x (fun b2 a0=>∃ (F:Bool),b2= .bool F/\Br (!F) (FCall P W4 #[] a0 (fun b3 b4=>∃ (G:Bool),b3= .bool G/\K (.bool G) b4))
 (FCall P Lh #[.agg #[I b,I c,.slice d e f,.slice g a i]] a0 (fun b5 b6=>∃ (l:Int) (m:Int) (n:OA) (o p:Nat) (w:Int),b5= .tuple #[.agg #[I l,I m,.slice n o p],I w]/\FCall P Lb #[.agg #[I b,I c,.slice d e f,.slice g a i]] b6 (fun b7 a1=>∃ (H:Int) (J:Int) (L:OA) (M N:Nat) (O:Int),b7= .tuple #[.agg #[I H,I J,.slice L M N],I O]/\FCall P Jf #[.agg #[I l,I m,.slice n o p],.agg #[I H,I J,.slice L M N]] a1 (fun b8 k=>∃ (Q:Bool),b8= .bool Q/\Heap.le a1 k/\Br Q (Br (w==O) (FCall P Li #[.agg #[I r,I s,.slice t u v],.agg #[I b,I c,.slice d e f,.slice g a i]] k (fun b9 y=>∃ (R:Bool),b9= .bool R/\Heap.le k y/\FCall P Lc #[.agg #[I r,I s,.slice t u v],.agg #[I b,I c,.slice d e f,.slice g a i]] y (fun c0 j=>∃ (S:Bool),c0= .bool S/\Heap.le y j/\Br (R==S) (Br (w != (0:Int)) (FCall P W4 #[] j (fun c1 a2=>∃ (T:Bool),c1= .bool T/\Heap.le j a2/\K (.bool T) a2))
 (FCall P Li #[.agg #[I l,I m,.slice n o p],.agg #[I b,I c,.slice d e f,.slice g a i]] j (fun c2 z=>∃ (V:Bool),c2= .bool V/\Heap.le j z/\FCall P Lc #[.agg #[I l,I m,.slice n o p],.agg #[I b,I c,.slice d e f,.slice g a i]] z (fun c3 q=>∃ (W:Bool),c3= .bool W/\Heap.le z q/\Br (V==W) (FCall P W4 #[] q (fun c4 a3=>∃ (X:Bool),c4= .bool X/\Heap.le q a3/\K (.bool X) a3))
 (K (.bool false) q)))))
 (K (.bool false) j))))
 (K (.bool false) k))
 (K (.bool false) k)))))))))))
theorem Zb a b c d e f g i j k l m n(hvc:Wb prog a b c d e f g i j k l m n h K):FCall prog Ou #[.agg #[I a,I b,.slice c d e],.agg #[I f,I g,.slice i j k,.slice l m n]] h K:=
 C8 bod func7 [.tmp 4] { orders:=[(5,((Lrg 0 11++[12,13,11]++Lrg 14 9++[24,25,23]++Lrg 26 8),[]))] } 74 [2,3,5,7] [14,19,24,33,42,43,44,45] [] (by kernel_rfl) hvc
def B5h(P:Program)(l:OA)(c n:Nat)(m:OA)(e o:Nat)(h:Heap)(K:VP):Prop:=
 Br ((c:Int) != (e:Int)) (K (.bool false) h)
 (∃ (d:LP) (f:LN),d [I 0] h/\
 ∀ a b,d [I a] b->Br (decide (a<(c:Int))) (∃ j,l=some j/\0<=a/\a<(c:Int)/\∃ (g:ByteArray),b.cell? (j.add (a.toNat*1))=some (.string g)/\∃ k,m=some k/\0<=a/\a<(e:Int)/\∃ (i:ByteArray),b.cell? (k.add (a.toNat*1))=some (.string i)/\Br (!(C36 g==C36 i)) (K (.bool false) b)
 (d [I (B5 (a+1))] b/\f [I (B5 (a+1))] b<f [I a] b))
 (K (.bool true) b))
theorem B15 a b c d e f(hvc:B5h prog a b c d e f h K):FCall prog Xx #[.slice a b c,.slice d e f] h K:=
 C8 bod func111 [.tmp 4] { loops:=[(4,⟨[13],[],[.int .i64 0],⟨([4,5]++Lrg 13 13),[]⟩⟩)] } 26 [] [] [] (by kernel_rfl) hvc
end Go.Proofs.YtajkakhfcokljaaGreatDoor
