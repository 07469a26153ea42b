/-
  Texts of this proof, merged by a program of ours.
-/
import Derived.Test.YtajkakhfcokljaaGreatDoorProg
import Derived.Test.YtajkakhfcokljaaGreatDoorG05
import Derived.Test.YtajkakhfcokljaaGreatDoorG06
import Derived.Test.YtajkakhfcokljaaGreatDoorG13
import Derived.Test.YtajkakhfcokljaaGreatDoorG07
import Derived.Test.YtajkakhfcokljaaGreatDoorG10
import Derived.Test.YtajkakhfcokljaaGreatDoorG27
import Derived.Test.YtajkakhfcokljaaGreatDoorG09
import Derived.Test.YtajkakhfcokljaaGreatDoorG29
open Go.Proofs.Tryz
open _root_.Go.Addr renaming add->C5q
open _root_.Go.Builtin renaming append_->C5v
open _root_.ByteArray renaming toList->C5t
open _root_.Go.Instr renaming storeAt->C5r,buildSlice->C5s,makeSlice->C5u
namespace Go.Proofs.YtajkakhfcokljaaGreatDoor
set_option linter.all false
open Go
set_option maxRecDepth 100000
variable {h:Heap} {K:VP}
abbrev B74:Nat:=55
abbrev Tv:Nat:=95
abbrev Hy:Nat:=49
abbrev Nj:Nat:=42
abbrev A04:Nat:=44
abbrev Jk:Nat:=36
abbrev C37:Nat:=56
abbrev C38:Nat:=52
abbrev C44:Nat:=126
abbrev R7:Nat:=118
abbrev Db:Nat:=96
abbrev Jl:Nat:=48
abbrev A03:Nat:=120
abbrev By:Nat:=122
abbrev Ej:Nat:=165
abbrev Pe:Nat:=98
abbrev Pf:Nat:=119
abbrev Fz:Nat:=181
abbrev C1q:Nat:=41
abbrev B73:Nat:=99
abbrev B9c:Nat:=37
abbrev C1r:Nat:=50
abbrev C1s:Nat:=43
abbrev C35:Nat:=45
abbrev C32:Nat:=124
abbrev C34:Nat:=185
abbrev C0l:Nat:=51
abbrev C40:Nat:=40
abbrev C31:Nat:=57
abbrev C33:Nat:=53
abbrev Jh:Nat:=33
abbrev Hw:Nat:=34
abbrev A00:Nat:=32
abbrev C3y:Nat:=54
abbrev C1p:Nat:=10
abbrev B71:Nat:=9
abbrev B72:Nat:=7
abbrev B5c:Nat:=5
abbrev A8w:Nat:=6
abbrev Hx:Nat:=11
abbrev A01:Nat:=8
abbrev B9b:Nat:=12
abbrev Zz:Nat:=111
abbrev C3c:Nat:=72
abbrev Ff:Nat:=173
abbrev C0t:Nat:=145
def C2s(P:Program)(f:Int)(d:Int)(g:OA)(i w:Nat)(h:Heap)(K:VP):Prop:=
 FCall P Pd #[.agg #[I f,I d,.slice g i w]] h (fun x l=>∃ (m:OA) (n o:Nat) (p:Bool),x= .tuple #[.slice m n o,.bool p]/\Br (!p) (K (.tuple #[.slice none 0 0,I 1]) l)
 (Br (f != d) (K (.tuple #[.slice none 0 0,I 4]) l)
 (∃ (j:LP) (q:LN),j [I 0] l/\
 ∀ a e,j [I a] e->Br (decide (a<f)) (∃ (k:LP) (r:LN),k [I 0] e/\
 ∀ b c,k [I b] c->Br (decide (b<a)) (∃ u,g=some u/\0<=B5 ((B5 (a*d))+b)/\B5 ((B5 (a*d))+b)<(i:Int)/\∃ (s:ByteArray),c.cell? (u.add ((B5 ((B5 (a*d))+b)).toNat*1))=some (.string s)/\∃ v,g=some v/\0<=B5 ((B5 (b*d))+a)/\B5 ((B5 (b*d))+a)<(i:Int)/\∃ (t:ByteArray),c.cell? (v.add ((B5 ((B5 (b*d))+a)).toNat*1))=some (.string t)/\Br (!(C5t s==C5t t)) (K (.tuple #[.slice none 0 0,I 4]) c)
 (k [I (B5 (b+1))] c/\r [I (B5 (b+1))] c<r [I b] c))
 (j [I (B5 (a+1))] c/\q [I (B5 (a+1))] c<q [I a] e))
 (K (.tuple #[.slice m n o,I 0]) e))))
theorem B6g a b c d e(hvc:C2s prog a b c d e h K):FCall prog Tv #[.agg #[I a,I b,.slice c d e]] h K:=
 C7 bod func95 [.tmp 2,.tmp 3] { loops:=[(7,⟨[22],[],[.int .i64 0],⟨([2,3,6,7]++Lrg 22 30),[]⟩⟩),(10,⟨[26],[],[.int .i64 0],⟨([2,3,7]++Lrg 26 25),[]⟩⟩)] } 53 [1] [67] [] (by kernel_rfl) hvc
def B3o(P:Program)(c:Int)(f:Int)(B:OA)(C D:Nat)(h:Heap)(K:VP):Prop:=
 FCall P Tv #[.agg #[I c,I f,.slice B C D]] h (fun E x=>∃ (g:OA) (i j:Nat) (d:Int),E= .tuple #[.slice g i j,I d]/\Br (d != (0:Int)) (K (.tuple #[.agg #[I 0,I 0,.slice none 0 0,.slice none 0 0],.bool false,I d]) x)
 (FCall P Db #[.slice g i j,I c] x (fun F a=>∃ (e:OA) (k:Bool),F= .tuple #[.pointer e,.bool k]/\Br (!k) (K (.tuple #[.agg #[I 0,I 0,.slice none 0 0,.slice none 0 0],.bool false,I 0]) a)
 (∃ z,e=some z/\∃ (l:OA) (m n:Nat),a.cell? (z.add 5)=some (.slice l m n)/\FCall P X9 #[.slice l m n] a (fun G b=>∃ (o:OA) (p q:Nat),G= .slice o p q/\Heap.le a b/\∃ A,e=some A/\∃ (r:OA) (s t:Nat),b.cell? (A.add 6)=some (.slice r s t)/\FCall P X9 #[.slice r s t] b (fun H y=>∃ (u:OA) (v w:Nat),H= .slice u v w/\Heap.le b y/\K (.tuple #[.agg #[I c,I f,.slice o p q,.slice u v w],.bool true,I 0]) y))))))
theorem A8r a b c d e(hvc:B3o prog a b c d e h K):FCall prog Hy #[.agg #[I a,I b,.slice c d e]] h K:=
 C7 bod func49 [.cell 2 72,.tmp 3,.tmp 4] { orders:=[(7,((Lrg 0 8++[10,8,9,11]),[]))] } 46 [1,2,9] [95,96,97] [] (by kernel_rfl) hvc
def B3p(P:Program)(a:Int)(w:Int)(J:OA)(L M:Nat)(g2:OA)(N g3:Nat)(h:Heap)(K:VP):Prop:=
 FCall P Pd #[.agg #[I a,I w,.slice J L M]] h (fun g6 g7=>∃ (j:OA) (k O:Nat) (Q:Bool),g6= .tuple #[.slice j k O,.bool Q]/\FCall P Jg #[.slice g2 N g3] g7 (fun g8 q=>∃ (R:OA) (S g4:Nat) (T:Bool),g8= .tuple #[.slice R S g4,.bool T]/\Br (!Q) (K (.tuple #[.agg #[I 0,I 0,.slice none 0 0],I 1]) q)
 (Br (!T) (K (.tuple #[.agg #[I 0,I 0,.slice none 0 0],I 1]) q)
 (Br (w != a) (K (.tuple #[.agg #[I 0,I 0,.slice none 0 0],I 4]) q)
 (Br ((N:Int) != a) (K (.tuple #[.agg #[I 0,I 0,.slice none 0 0],I 4]) q)
 (∃ (x:LP) (V:LN),x [I 0,I 0,I 0,.slice none 0 0] q/\
 ∀ b D E F G H i,x [I b,I D,I E,.slice F G H] i->Br (decide (b<a)) (∃ r,j=some r/\0<=B5 ((B5 (b*a))+b)/\B5 ((B5 (b*a))+b)<(k:Int)/\∃ (W:Bool) (X:OA) (Z a0:Nat) (a1:Bool) (a2:OA) (a3 a4:Nat),i.cell? (C5q (r.add ((B5 ((B5 (b*a))+b)).toNat*4)) 0)=some (.bool W)/\i.cell? (C5q (r.add ((B5 ((B5 (b*a))+b)).toNat*4)) 1)=some (.slice X Z a0)/\i.cell? (C5q (r.add ((B5 ((B5 (b*a))+b)).toNat*4)) 2)=some (.bool a1)/\i.cell? (C5q (r.add ((B5 ((B5 (b*a))+b)).toNat*4)) 3)=some (.slice a2 a3 a4)/\FCall P Zq #[.agg #[.bool W,.slice X Z a0,.bool a1,.slice a2 a3 a4]] i (fun g9 f6=>∃ (a5:Bool),g9= .bool a5/\Br (!a5) (K (.tuple #[.agg #[I 0,I 0,.slice none 0 0],I 4]) f6)
 (∃ (y:LP) (a6:LN),y [I (B5 (b+1)),I D,I E,.slice F G H] f6/\
 ∀ f l m n o p g,y [I f,I l,I m,.slice n o p] g->Br (decide (f<a)) (∃ s,j=some s/\0<=B5 ((B5 (b*a))+f)/\B5 ((B5 (b*a))+f)<(k:Int)/\∃ (a7:Bool) (a8:OA) (a9 b0:Nat) (b1:Bool) (b2:OA) (b3 b4:Nat),g.cell? (C5q (s.add ((B5 ((B5 (b*a))+f)).toNat*4)) 0)=some (.bool a7)/\g.cell? (C5q (s.add ((B5 ((B5 (b*a))+f)).toNat*4)) 1)=some (.slice a8 a9 b0)/\g.cell? (C5q (s.add ((B5 ((B5 (b*a))+f)).toNat*4)) 2)=some (.bool b1)/\g.cell? (C5q (s.add ((B5 ((B5 (b*a))+f)).toNat*4)) 3)=some (.slice b2 b3 b4)/\FCall P Eh #[.agg #[.bool a7,.slice a8 a9 b0,.bool b1,.slice b2 b3 b4]] g (fun h0 B=>∃ (b5:Bool),h0= .bool b5/\Br (!b5) (K (.tuple #[.agg #[I 0,I 0,.slice none 0 0],I 4]) B)
 (y [I (B5 (f+1)),I l,I m,.slice n o p] B/\a6 [I (B5 (f+1)),I l,I m,.slice n o p] B<a6 [I f,I l,I m,.slice n o p] g)))
 (x [I (B5 (b+1)),I l,I m,.slice n o p] g/\V [I (B5 (b+1)),I l,I m,.slice n o p] g<V [I b,I D,I E,.slice F G H] i))))
 (∃ (z:LP) (b6:LN),z [I 0] i/\
 ∀ d v,z [I d] v->Br (decide (d<a)) (∃ (A:LP) (b7:LN),A [I 0] v/\
 ∀ c e,A [I c] e->Br (decide (c<a)) (∃ t,j=some t/\0<=B5 ((B5 (d*a))+c)/\B5 ((B5 (d*a))+c)<(k:Int)/\∃ (b8:Bool) (b9:OA) (c0 c1:Nat) (c2:Bool) (c3:OA) (c4 c5:Nat),e.cell? (C5q (t.add ((B5 ((B5 (d*a))+c)).toNat*4)) 0)=some (.bool b8)/\e.cell? (C5q (t.add ((B5 ((B5 (d*a))+c)).toNat*4)) 1)=some (.slice b9 c0 c1)/\e.cell? (C5q (t.add ((B5 ((B5 (d*a))+c)).toNat*4)) 2)=some (.bool c2)/\e.cell? (C5q (t.add ((B5 ((B5 (d*a))+c)).toNat*4)) 3)=some (.slice c3 c4 c5)/\∃ u,R=some u/\0<=c/\c<(S:Int)/\∃ (c6:Bool) (c7:OA) (c8 c9:Nat) (d0:Bool) (d1:OA) (d2 d3:Nat),e.cell? (C5q (u.add (c.toNat*4)) 0)=some (.bool c6)/\e.cell? (C5q (u.add (c.toNat*4)) 1)=some (.slice c7 c8 c9)/\e.cell? (C5q (u.add (c.toNat*4)) 2)=some (.bool d0)/\e.cell? (C5q (u.add (c.toNat*4)) 3)=some (.slice d1 d2 d3)/\FCall P Xc #[.agg #[.bool b8,.slice b9 c0 c1,.bool c2,.slice c3 c4 c5],.agg #[.bool c6,.slice c7 c8 c9,.bool d0,.slice d1 d2 d3]] e (fun h1 f7=>∃ (d4:Bool) (d5:OA) (d6 d7:Nat) (d8:Bool) (d9:OA) (e0 e1:Nat),h1= .agg #[.bool d4,.slice d5 d6 d7,.bool d8,.slice d9 e0 e1]/\Heap.le e f7/\∃ g1,j=some g1/\0<=B5 ((B5 (d*a))+c)/\B5 ((B5 (d*a))+c)<(k:Int)/\wpH P (C5r 106 (.pointer (some (g1.add ((B5 ((B5 (d*a))+c)).toNat*4)))) (.agg #[.bool d4,.slice d5 d6 d7,.bool d8,.slice d9 e0 e1])) (fun _ f8=>A [I (B5 (c+1))] f8/\b7 [I (B5 (c+1))] f8<b7 [I c] e) f7))
 (z [I (B5 (d+1))] e/\b6 [I (B5 (d+1))] e<b6 [I d] v))
 (FCall P Ht #[.agg #[I a,I w,.slice J L M]] v (fun h2 f9=>∃ (e2:Int) (e3:Int) (e4:OA) (e5 e6:Nat) (g5:Int),h2= .tuple #[.agg #[I e2,I e3,.slice e4 e5 e6],I g5]/\FCall P X9 #[.slice j k O] f9 (fun h3 C=>∃ (e7:OA) (e8 e9:Nat),h3= .slice e7 e8 e9/\Heap.le f9 C/\FCall P B1c #[.agg #[I a,I a,.slice e7 e8 e9],.agg #[I e2,I e3,.slice e4 e5 e6]] C (fun h4 g0=>∃ (f0:Int) (f1:Int) (f2:OA) (f3 f4:Nat) (f5:Int),h4= .tuple #[.agg #[I f0,I f1,.slice f2 f3 f4],I f5]/\Heap.le C g0/\K (.tuple #[.agg #[I f0,I f1,.slice f2 f3 f4],I f5]) g0)))))))))))
theorem A8s a b c d e f g i(hvc:B3p prog a b c d e f g i h K):FCall prog Nj #[.agg #[I a,I b,.slice c d e,.slice f g i]] h K:=
 C7 bod func42 [.cell 2 25,.tmp 3] ⟨[(9,⟨[51],[(2,3)],[.int .i64 0,.int .i64 0,.int .i64 0,.slice none 0 0],⟨([3,9,10]++Lrg 51 33),[2]⟩⟩),(14,⟨[10],[(2,3)],[.int .i64 0,.int .i64 0,.int .i64 0,.slice none 0 0],⟨([3,10]++Lrg 67 16),[2]⟩⟩),(20,⟨[85],[],[.int .i64 0],⟨([11,12]++Lrg 85 29),[]⟩⟩),(23,⟨[89],[],[.int .i64 0],⟨([12]++Lrg 89 24),[]⟩⟩)],[],[(29,([0,1,2,5,3,4,6,7,8,9,10],[]))],[],[]⟩ 129 [1,2,13] [26,47,67,81,97,104,105,106] [] (by kernel_rfl) hvc
def B84(P:Program)(u:Int)(v:Int)(w:OA)(x y:Nat)(z:Int)(A:Int)(B:OA)(C D:Nat)(g:OA)(d E:Nat)(h:Heap)(K:VP):Prop:=
 FCall P Nj #[.agg #[I z,I A,.slice B C D,.slice g d E]] h (fun F c=>∃ (i:Int) (j:Int) (k:OA) (l m:Nat) (n:Int),F= .tuple #[.agg #[I i,I j,.slice k l m],I n]/\Br (n != (0:Int)) (K (.bool false) c)
 (Br (i != u) (K (.bool false) c)
 (Br (j != v) (K (.bool false) c)
 (FCall P Zz #[.slice k l m,.slice w x y] c (fun G r=>∃ (o:Bool),G= .bool o/\Br (!o) (K (.bool false) r)
 (∃ (e:LP) (p:LN),e [I 0] r/\
 ∀ a b,e [I a] b->Br (decide (a<(d:Int))) (∃ s,g=some s/\0<=a/\a<(d:Int)/\∃ (q:ByteArray),b.cell? (s.add (a.toNat*1))=some (.string q)/\FCall P Tq #[.string q] b (fun H f=>∃ t,H=I t/\Br (decide (t<(0:Int))) (K (.bool false) f)
 (e [I (B5 (a+1))] f/\p [I (B5 (a+1))] f<p [I a] b)))
 (K (.bool true) b)))))))
theorem B3q a b c d e f g i j k l m n(hvc:B84 prog a b c d e f g i j k l m n h K):FCall prog A04 #[.agg #[I a,I b,.slice c d e],.agg #[I f,I g,.slice i j k,.slice l m n]] h K:=
 C7 bod func44 [.tmp 4] { loops:=[(5,⟨[41],[],[.int .i64 0],⟨([4,8]++Lrg 41 8),[]⟩⟩)] } 49 [2,3,5] [42,58,111] [] (by kernel_rfl) hvc
def A75(P:Program)(b:Int)(q:Int)(r:OA)(s t:Nat)(h:Heap)(K:VP):Prop:=
 FCall P Tv #[.agg #[I b,I q,.slice r s t]] h (fun u o=>∃ (c:OA) (d e:Nat) (a:Int),u= .tuple #[.slice c d e,I a]/\Br (a != (0:Int)) (K (.tuple #[.slice none 0 0,.bool false,I a]) o)
 (FCall P Db #[.slice c d e,I b] o (fun v p=>∃ (f:OA) (g:Bool),v= .tuple #[.pointer f,.bool g]/\Br g (K (.tuple #[.slice none 0 0,.bool false,I 0]) p)
 (FCall P Pe #[.pointer f] p (fun w x=>∃ (i:OA) (j k:Nat),w= .slice i j k/\FCall P X9 #[.slice i j k] x (fun y z=>∃ (l:OA) (m n:Nat),y= .slice l m n/\K (.tuple #[.slice l m n,.bool true,I 0]) z))))))
theorem A5k a b c d e(hvc:A75 prog a b c d e h K):FCall prog Jk #[.agg #[I a,I b,.slice c d e]] h K:=
 C7 bod func36 [.tmp 2,.tmp 3,.tmp 4] an0 28 [1] [95,96,97,98] [] (by kernel_rfl) hvc
def Cu(P:Program)(i:OA)(j k:Nat)(a:Int)(h:Heap)(K:VP):Prop:=
 FCall P Kv #[.slice i j k,I a] h (fun l m=>∃ (b:OA),l= .pointer b/\FCall P Tp #[I 1] m (fun n o=>∃ (c:Bool) (d:OA) (e f:Nat),n= .agg #[.bool c,.slice d e f]/\wpH P (Instr.box 173 (.agg #[I a,I 0,.pointer b,.bool c,.slice d e f,.slice none 0 0,.slice none 0 0])) (fun p q=>∃ (g:Addr),p= .pointer (some g)/\K (.pointer (some g)) q) o))
theorem Di a b c d(hvc:Cu prog a b c d h K):FCall prog R7 #[.slice a b c,I d] h K:=
 C7 bod func118 [.tmp 4] an0 12 [] [68,139] [1000000000] (by kernel_rfl) hvc
def Yc(P:Program)(d7:OA)(d8 d9:Nat)(b:Int)(h:Heap)(K:VP):Prop:=
 FCall P R7 #[.slice d7 d8 d9,I b] h (fun e4 e5=>∃ (c:OA),e4= .pointer c/\wpH P (C5u 95 (I (B5 (b*b))) (I (B5 (b*b)))) (fun e6 e7=>∃ (z:OA) (A B:Nat),e6= .slice z A B/\∃ c5,c=some c5/\wpH P (C5r 95 (.pointer (some (c5.add 5))) (.slice z A B)) (fun _ e8=>wpH P (C5u 95 (I b) (I b)) (fun e9 f0=>∃ (C:OA) (D E:Nat),e9= .slice C D E/\∃ c6,c=some c6/\wpH P (C5r 95 (.pointer (some (c6.add 6))) (.slice C D E)) (fun _ f1=>∃ (r:LP) (s:LN),r [.bool true,I 0] f1/\
 ∀ n a p,r [.bool n,I a] p->Br (decide (a<b)) (FCall P A03 #[.pointer c,I a,I a] p (fun f2 f3=>∃ (e:Bool) (f:OA) (g i:Nat) (j:Bool) (k:OA) (l m:Nat),f2= .agg #[.bool e,.slice f g i,.bool j,.slice k l m]/\FCall P Ej #[.pointer c] f3 (fun f4 f5=>∃ (e0:Int) (F:Bool),f4= .tuple #[I e0,.bool F]/\∃ (u:LP),(FCall P Zp #[.agg #[.bool e,.slice f g i,.bool j,.slice k l m]] f5 (fun f6 b8=>∃ c7,f6=I c7/\Br (decide (c7<(0:Int))) (K (.tuple #[.pointer c,.bool false]) b8)
 (FCall P Eh #[.agg #[.bool e,.slice f g i,.bool j,.slice k l m]] b8 (fun f7 w=>∃ (G:Bool),f7= .bool G/\Br G (Br F (K (.tuple #[.pointer c,.bool false]) w)
 (u [.bool n] w))
 (u [.bool n] w)))))/\
 ∀ q t,u [.bool q] t->∃ c8,c=some c8/\∃ (H:OA) (J e1:Nat),t.cell? (c8.add 5)=some (.slice H J e1)/\FCall P Bo #[I 1] t (fun f8 b9=>∃ (L:Bool) (M:OA) (N O:Nat) (Q:Bool) (R:OA) (S T:Nat),f8= .agg #[.bool L,.slice M N O,.bool Q,.slice R S T]/\Heap.le t b9/\∃ c9,H=some c9/\0<=B5 ((B5 (a*b))+a)/\B5 ((B5 (a*b))+a)<(J:Int)/\wpH P (C5r 106 (.pointer (some (c9.add ((B5 ((B5 (a*b))+a)).toNat*4)))) (.agg #[.bool L,.slice M N O,.bool Q,.slice R S T])) (fun _ c0=>∃ d0,c=some d0/\∃ (V:OA) (W e2:Nat),c0.cell? (d0.add 6)=some (.slice V W e2)/\∃ d1,V=some d1/\0<=a/\a<(W:Int)/\wpH P (C5r 106 (.pointer (some (d1.add (a.toNat*4)))) (.agg #[.bool e,.slice f g i,.bool j,.slice k l m])) (fun _ f9=>FCall P Eh #[.agg #[.bool e,.slice f g i,.bool j,.slice k l m]] f9 (fun g0 x=>∃ (X:Bool),g0= .bool X/\Br X (∃ d2,c=some d2/\∃ d3,x.cell? (d2.add 1)=some (I d3)/\∃ d4,c=some d4/\wpH P (C5r 3 (.pointer (some (d4.add 1))) (I (B5 (d3+1)))) (fun _ c1=>r [.bool q,I (B5 (a+1))] c1/\s [.bool q,I (B5 (a+1))] c1<s [.bool n,I a] p) x)
 (∃ (v:LP) (Z:LN),v [I (B5 (a+1))] x/\
 ∀ d o,v [I d] o->Br (decide (d<b)) (∃ d5,c=some d5/\∃ (a0:OA) (a1 e3:Nat),o.cell? (d5.add 5)=some (.slice a0 a1 e3)/\FCall P A03 #[.pointer c,I d,I a] o (fun g1 y=>∃ (a2:Bool) (a3:OA) (a4 a5:Nat) (a6:Bool) (a7:OA) (a8 a9:Nat),g1= .agg #[.bool a2,.slice a3 a4 a5,.bool a6,.slice a7 a8 a9]/\Heap.le o y/\FCall P Ts #[.agg #[.bool a2,.slice a3 a4 a5,.bool a6,.slice a7 a8 a9],.agg #[.bool e,.slice f g i,.bool j,.slice k l m]] y (fun g2 c2=>∃ (b0:Bool) (b1:OA) (b2 b3:Nat) (b4:Bool) (b5:OA) (b6 b7:Nat),g2= .agg #[.bool b0,.slice b1 b2 b3,.bool b4,.slice b5 b6 b7]/\Heap.le y c2/\∃ d6,a0=some d6/\0<=B5 ((B5 (d*b))+a)/\B5 ((B5 (d*b))+a)<(a1:Int)/\wpH P (C5r 106 (.pointer (some (d6.add ((B5 ((B5 (d*b))+a)).toNat*4)))) (.agg #[.bool b0,.slice b1 b2 b3,.bool b4,.slice b5 b6 b7])) (fun _ c3=>v [I (B5 (d+1))] c3/\Z [I (B5 (d+1))] c3<Z [I d] o) c2)))
 (FCall P By #[.pointer c] o (fun g3 c4=>g3= .tuple #[]/\r [.bool q,I (B5 (a+1))] c4/\s [.bool q,I (B5 (a+1))] c4<s [.bool n,I a] p))))) c0) b9))))
 (K (.tuple #[.pointer c,.bool n]) p)) f0) e8) e7) e5)
theorem A0z a b c d(hvc:Yc prog a b c d h K):FCall prog Db #[.slice a b c,I d] h K:=
 C7 bod func96 [.tmp 4,.tmp 5] ⟨[(6,⟨[7,29],[],[.bool false,.int .i64 0],⟨([7,8,9,10,11,12]++Lrg 29 75),[9]⟩⟩),(17,⟨[12],[],[.int .i64 0],⟨([12]++Lrg 80 21),[]⟩⟩)],[(12,⟨[7],[],[.bool false],⟨([7]++Lrg 41 10),[]⟩⟩)],[(19,((Lrg 0 12++[13,12,14,15,16]),[]))],[],[]⟩ 106 [9] [72,106,118,120,121,122,165,166] [122] (by kernel_rfl) hvc
def A76(P:Program)(i:Int)(G:Int)(H:OA)(J L:Nat)(h:Heap)(K:VP):Prop:=
 FCall P Tv #[.agg #[I i,I G,.slice H J L]] h (fun M y=>∃ (m:OA) (n o:Nat) (j:Int),M= .tuple #[.slice m n o,I j]/\Br (j != (0:Int)) (K (.tuple #[I 0,I 0,I 0,I j]) y)
 (FCall P R7 #[.slice m n o,I i] y (fun N O=>∃ (c:OA),N= .pointer c/\∃ (e:LP) (f:LN),e [I 0,I 0] O/\
 ∀ a b g,e [I a,I b] g->FCall P Pf #[.pointer c] g (fun Q d=>∃ (p:Bool),Q= .bool p/\Br p (∃ B,c=some B/\∃ C,d.cell? (B.add 1)=some (I C)/\∃ D,c=some D/\∃ E,d.cell? (D.add 1)=some (I E)/\FCall P A03 #[.pointer c,I C,I E] d (fun R k=>∃ (q:Bool) (r:OA) (s t:Nat) (u:Bool) (v:OA) (w x:Nat),R= .agg #[.bool q,.slice r s t,.bool u,.slice v w x]/\Heap.le d k/\FCall P Zp #[.agg #[.bool q,.slice r s t,.bool u,.slice v w x]] k (fun S l=>∃ F,S=I F/\Heap.le k l/\Br (decide (F>(0:Int))) (FCall P By #[.pointer c] l (fun T z=>T= .tuple #[]/\e [I (B5 (a+1)),I b] z/\f [I (B5 (a+1)),I b] z<f [I a,I b] g))
 (FCall P By #[.pointer c] l (fun V A=>V= .tuple #[]/\e [I a,I (B5 (b+1))] A/\f [I a,I (B5 (b+1))] A<f [I a,I b] g)))))
 (K (.tuple #[I a,I (B5 ((B5 (i-a))-b)),I b,I 0]) d)))))
theorem A5l a b c d e(hvc:A76 prog a b c d e h K):FCall prog Jl #[.agg #[I a,I b,.slice c d e]] h K:=
 C7 bod func48 [.tmp 2,.tmp 3,.tmp 4,.tmp 5] { loops:=[(6,⟨[9,10],[],[.int .i64 0,.int .i64 0],⟨([9,10]++Lrg 23 20),[]⟩⟩)] } 51 [1] [95,118,119,120,121,122] [119,122] (by kernel_rfl) hvc
def EAt(P:Program)(e:OA)(a:Int)(d:Int)(h:Heap)(K:VP):Prop:=
 ∃ a1,e=some a1/\∃ (j:OA),h.cell? (a1.add 2)=some (.pointer j)/\∃ g,e=some g/\∃ (k:Bool) (l:OA) (m n:Nat),h.cell? (C5q (g.add 3) 0)=some (.bool k)/\h.cell? (C5q (g.add 3) 1)=some (.slice l m n)/\∃ a2,e=some a2/\∃ (o:OA),h.cell? (a2.add 2)=some (.pointer o)/\∃ a3,o=some a3/\∃ (p:OA) (q a4:Nat),h.cell? (a3.add 2)=some (.slice p q a4)/\∃ c,p=some c/\0<=a/\a<(q:Int)/\∃ (r:Bool) (s:OA) (t u:Nat) (v:Bool) (w:OA) (x y:Nat),h.cell? (C5q (c.add (a.toNat*4)) 0)=some (.bool r)/\h.cell? (C5q (c.add (a.toNat*4)) 1)=some (.slice s t u)/\h.cell? (C5q (c.add (a.toNat*4)) 2)=some (.bool v)/\h.cell? (C5q (c.add (a.toNat*4)) 3)=some (.slice w x y)/\FCall P Cn #[.pointer j,I a] h (fun a6 b=>∃ (z:OA) (A a5:Nat),a6= .slice z A a5/\Heap.le h b/\∃ i,z=some i/\0<=d/\d<(A:Int)/\∃ (B:Bool) (C:OA) (D E:Nat),b.cell? (C5q (i.add (d.toNat*2)) 0)=some (.bool B)/\b.cell? (C5q (i.add (d.toNat*2)) 1)=some (.slice C D E)/\FCall P T0 #[.agg #[.bool B,.slice C D E],.agg #[.bool k,.slice l m n]] b (fun a7 f=>∃ (F:Bool) (G:OA) (H J:Nat) (L:Bool) (M:OA) (N O:Nat),a7= .agg #[.bool F,.slice G H J,.bool L,.slice M N O]/\Heap.le b f/\FCall P Ts #[.agg #[.bool F,.slice G H J,.bool L,.slice M N O],.agg #[.bool r,.slice s t u,.bool v,.slice w x y]] f (fun a8 a0=>∃ (Q:Bool) (R:OA) (S T:Nat) (V:Bool) (W:OA) (X Z:Nat),a8= .agg #[.bool Q,.slice R S T,.bool V,.slice W X Z]/\Heap.le f a0/\K (.agg #[.bool Q,.slice R S T,.bool V,.slice W X Z]) a0)))
theorem C2r a b c(hvc:EAt prog a b c h K):FCall prog A03 #[.pointer a,I b,I c] h K:=
 C7 bod func120 [.cell 6 106] { orders:=[(1,(([0,1,2,3,4,6,9,10,11,12]++Lrg 14 10++[5,7,8,13,24,25]),[]))] } 32 [6] [72,132,144] [] (by kernel_rfl) hvc
def A74(P:Program)(c:OA)(h:Heap)(K:VP):Prop:=
 ∃ y,c=some y/\∃ a,h.cell? (y.add 1)=some (I a)/\∃ (e:LP) (j:LN),e [I (B5 (a+1))] h/\
 ∀ d b,e [I d] b->∃ z,c=some z/\∃ A,b.cell? (z.add 0)=some (I A)/\Br (decide (d<A)) (∃ B,c=some B/\∃ (k:OA),b.cell? (B.add 2)=some (.pointer k)/\∃ g,c=some g/\∃ (l:Bool) (m:OA) (n o:Nat),b.cell? (C5q (g.add 3) 0)=some (.bool l)/\b.cell? (C5q (g.add 3) 1)=some (.slice m n o)/\FCall P A06 #[.pointer k,I d,I a,I a,.agg #[.bool l,.slice m n o]] b (fun J w=>J= .tuple #[]/\e [I (B5 (d+1))] w/\j [I (B5 (d+1))] w<j [I d] b))
 (∃ C,c=some C/\∃ (p:OA),b.cell? (C.add 2)=some (.pointer p)/\FCall P Cn #[.pointer p,I a] b (fun L f=>∃ (q:OA) (r H:Nat),L= .slice q r H/\∃ i,q=some i/\0<=a/\a<(r:Int)/\∃ (s:Bool) (t:OA) (u v:Nat),f.cell? (C5q (i.add (a.toNat*2)) 0)=some (.bool s)/\f.cell? (C5q (i.add (a.toNat*2)) 1)=some (.slice t u v)/\∃ D,c=some D/\wpH P (C5r 102 (.pointer (some (D.add 3))) (.agg #[.bool s,.slice t u v])) (fun _ x=>∃ E,c=some E/\∃ F,x.cell? (E.add 1)=some (I F)/\∃ G,c=some G/\wpH P (C5r 3 (.pointer (some (G.add 1))) (I (B5 (F+1)))) (fun _ M=>K (.tuple #[]) M) x) f))
theorem A5j a(hvc:A74 prog a h K):FCall prog By #[.pointer a] h K:=
 C7 bod func122 [] { loops:=[(2,⟨[3],[],[.int .i64 0],⟨([3]++Lrg 10 20),[]⟩⟩)] } 49 [] [143,144] [143] (by kernel_rfl) hvc
def A73(P:Program)(e:OA)(h:Heap)(K:VP):Prop:=
 ∃ s,e=some s/\∃ t,h.cell? (s.add 1)=some (I t)/\∃ (g:LP) (j:LN),g [I (B5 (t+1))] h/\
 ∀ b a,g [I b] a->∃ u,e=some u/\∃ v,a.cell? (u.add 0)=some (I v)/\Br (decide (b<v)) (∃ w,e=some w/\∃ (k:OA),a.cell? (w.add 2)=some (.pointer k)/\∃ x,e=some x/\∃ d,a.cell? (x.add 1)=some (I d)/\FCall P Cn #[.pointer k,I b] a (fun z c=>∃ (l:OA) (m y:Nat),z= .slice l m y/\Heap.le a c/\∃ i,l=some i/\0<=d/\d<(m:Int)/\∃ (n:Bool) (o:OA) (p q:Nat),c.cell? (C5q (i.add (d.toNat*2)) 0)=some (.bool n)/\c.cell? (C5q (i.add (d.toNat*2)) 1)=some (.slice o p q)/\FCall P E9 #[.agg #[.bool n,.slice o p q]] c (fun A f=>∃ (r:Bool),A= .bool r/\Heap.le c f/\Br (!r) (K (.tuple #[I b,.bool true]) f)
 (g [I (B5 (b+1))] f/\j [I (B5 (b+1))] f<j [I b] a))))
 (K (.tuple #[I 0,.bool false]) a)
theorem A5i a(hvc:A73 prog a h K):FCall prog Ej #[.pointer a] h K:=
 C7 bod func165 [.tmp 2,.tmp 3] ⟨[(2,⟨[4],[],[.int .i64 0],⟨([2,3,4]++Lrg 10 23),[]⟩⟩)],[],[(4,([0,1,2,3,4,6,7,8,9,5,10,11,12,13],[]))],[],[]⟩ 33 [] [138,144] [] (by kernel_rfl) hvc
def A71(P:Program)(i:OA)(h:Heap)(K:VP):Prop:=
 ∃ l6,i=some l6/\∃ e,h.cell? (l6.add 0)=some (I e)/\∃ l7,i=some l7/\∃ d,h.cell? (l7.add 1)=some (I d)/\wpH P (C5u 95 (I e) (I e)) (fun m6 m7=>∃ (f:OA) (g w:Nat),m6= .slice f g w/\∃ (n:LP),(FCall P Ej #[.pointer i] m7 (fun m8 l0=>∃ (j:Int) (x:Bool),m8= .tuple #[I j,.bool x]/\Br x (FCall P A03 #[.pointer i,I d,I d] l0 (fun m9 n0=>∃ (y:Bool) (z:OA) (A B:Nat) (C:Bool) (D:OA) (E F:Nat),m9= .agg #[.bool y,.slice z A B,.bool C,.slice D E F]/\FCall P Eh #[.agg #[.bool y,.slice z A B,.bool C,.slice D E F]] n0 (fun n1 l1=>∃ (G:Bool),n1= .bool G/\Br G (FCall P A03 #[.pointer i,I j,I d] l1 (fun n2 n3=>∃ (H:Bool) (J:OA) (L M:Nat) (N:Bool) (O:OA) (Q R:Nat),n2= .agg #[.bool H,.slice J L M,.bool N,.slice O Q R]/\FCall P A03 #[.pointer i,I j,I j] n3 (fun n4 n5=>∃ (S:Bool) (T:OA) (V W:Nat) (X:Bool) (Z:OA) (a0 a1:Nat),n4= .agg #[.bool S,.slice T V W,.bool X,.slice Z a0 a1]/\FCall P Bo #[I 1] n5 (fun n6 n7=>∃ (a2:Bool) (a3:OA) (a4 a5:Nat) (a6:Bool) (a7:OA) (a8 a9:Nat),n6= .agg #[.bool a2,.slice a3 a4 a5,.bool a6,.slice a7 a8 a9]/\∃ l8,f=some l8/\0<=j/\j<(g:Int)/\wpH P (C5r 106 (.pointer (some (l8.add (j.toNat*4)))) (.agg #[.bool a2,.slice a3 a4 a5,.bool a6,.slice a7 a8 a9])) (fun _ l2=>FCall P Bo #[I 1] l2 (fun n8 r=>∃ (b0:Bool) (b1:OA) (b2 b3:Nat) (b4:Bool) (b5:OA) (b6 b7:Nat),n8= .agg #[.bool b0,.slice b1 b2 b3,.bool b4,.slice b5 b6 b7]/\Heap.le l2 r/\FCall P A6c #[.agg #[.bool S,.slice T V W,.bool X,.slice Z a0 a1],.agg #[.bool b0,.slice b1 b2 b3,.bool b4,.slice b5 b6 b7]] r (fun n9 s=>∃ (b8:Bool) (b9:OA) (c0 c1:Nat) (c2:Bool) (c3:OA) (c4 c5:Nat),n9= .agg #[.bool b8,.slice b9 c0 c1,.bool c2,.slice c3 c4 c5]/\Heap.le r s/\FCall P Bo #[I (-2:Int)] s (fun o0 t=>∃ (c6:Bool) (c7:OA) (c8 c9:Nat) (d0:Bool) (d1:OA) (d2 d3:Nat),o0= .agg #[.bool c6,.slice c7 c8 c9,.bool d0,.slice d1 d2 d3]/\Heap.le s t/\FCall P Xc #[.agg #[.bool H,.slice J L M,.bool N,.slice O Q R],.agg #[.bool c6,.slice c7 c8 c9,.bool d0,.slice d1 d2 d3]] t (fun o1 u=>∃ (d4:Bool) (d5:OA) (d6 d7:Nat) (d8:Bool) (d9:OA) (e0 e1:Nat),o1= .agg #[.bool d4,.slice d5 d6 d7,.bool d8,.slice d9 e0 e1]/\Heap.le t u/\FCall P Ts #[.agg #[.bool b8,.slice b9 c0 c1,.bool c2,.slice c3 c4 c5],.agg #[.bool d4,.slice d5 d6 d7,.bool d8,.slice d9 e0 e1]] u (fun o2 l3=>∃ (e2:Bool) (e3:OA) (e4 e5:Nat) (e6:Bool) (e7:OA) (e8 e9:Nat),o2= .agg #[.bool e2,.slice e3 e4 e5,.bool e6,.slice e7 e8 e9]/\Heap.le u l3/\∃ l9,f=some l9/\0<=d/\d<(g:Int)/\wpH P (C5r 106 (.pointer (some (l9.add (d.toNat*4)))) (.agg #[.bool e2,.slice e3 e4 e5,.bool e6,.slice e7 e8 e9])) (fun _ o3=>n [] o3) l3)))))) n7))))
 (FCall P Bo #[I 1] l1 (fun o4 o5=>∃ (f0:Bool) (f1:OA) (f2 f3:Nat) (f4:Bool) (f5:OA) (f6 f7:Nat),o4= .agg #[.bool f0,.slice f1 f2 f3,.bool f4,.slice f5 f6 f7]/\∃ m0,f=some m0/\0<=d/\d<(g:Int)/\wpH P (C5r 106 (.pointer (some (m0.add (d.toNat*4)))) (.agg #[.bool f0,.slice f1 f2 f3,.bool f4,.slice f5 f6 f7])) (fun _ o6=>n [] o6) o5)))))
 (FCall P Bo #[I 1] l0 (fun o7 o8=>∃ (f8:Bool) (f9:OA) (g0 g1:Nat) (g2:Bool) (g3:OA) (g4 g5:Nat),o7= .agg #[.bool f8,.slice f9 g0 g1,.bool g2,.slice g3 g4 g5]/\∃ m1,f=some m1/\0<=d/\d<(g:Int)/\wpH P (C5r 106 (.pointer (some (m1.add (d.toNat*4)))) (.agg #[.bool f8,.slice f9 g0 g1,.bool g2,.slice g3 g4 g5])) (fun _ o9=>n [] o9) o8))))/\
 ∀ m2,n [] m2->∃ (p:LP) (g6:LN),p [I (B5 (d-1))] m2/\
 ∀ a o,p [I a] o->Br (decide (a>=(0:Int))) (∃ (q:LP) (g7:LN),q [I (B5 (a+1))] o/\
 ∀ c b,q [I c] b->Br (decide (c<e)) (∃ k,f=some k/\0<=a/\a<(g:Int)/\∃ (g8:Bool) (g9:OA) (h0 h1:Nat) (h2:Bool) (h3:OA) (h4 h5:Nat),b.cell? (C5q (k.add (a.toNat*4)) 0)=some (.bool g8)/\b.cell? (C5q (k.add (a.toNat*4)) 1)=some (.slice g9 h0 h1)/\b.cell? (C5q (k.add (a.toNat*4)) 2)=some (.bool h2)/\b.cell? (C5q (k.add (a.toNat*4)) 3)=some (.slice h3 h4 h5)/\∃ m3,i=some m3/\∃ (h6:OA) (h7 m5:Nat),b.cell? (m3.add 5)=some (.slice h6 h7 m5)/\∃ l,h6=some l/\0<=B5 ((B5 (c*e))+a)/\B5 ((B5 (c*e))+a)<(h7:Int)/\∃ (h8:Bool) (h9:OA) (i0 i1:Nat) (i2:Bool) (i3:OA) (i4 i5:Nat),b.cell? (C5q (l.add ((B5 ((B5 (c*e))+a)).toNat*4)) 0)=some (.bool h8)/\b.cell? (C5q (l.add ((B5 ((B5 (c*e))+a)).toNat*4)) 1)=some (.slice h9 i0 i1)/\b.cell? (C5q (l.add ((B5 ((B5 (c*e))+a)).toNat*4)) 2)=some (.bool i2)/\b.cell? (C5q (l.add ((B5 ((B5 (c*e))+a)).toNat*4)) 3)=some (.slice i3 i4 i5)/\∃ m,f=some m/\0<=c/\c<(g:Int)/\∃ (i6:Bool) (i7:OA) (i8 i9:Nat) (j0:Bool) (j1:OA) (j2 j3:Nat),b.cell? (C5q (m.add (c.toNat*4)) 0)=some (.bool i6)/\b.cell? (C5q (m.add (c.toNat*4)) 1)=some (.slice i7 i8 i9)/\b.cell? (C5q (m.add (c.toNat*4)) 2)=some (.bool j0)/\b.cell? (C5q (m.add (c.toNat*4)) 3)=some (.slice j1 j2 j3)/\FCall P Xc #[.agg #[.bool h8,.slice h9 i0 i1,.bool i2,.slice i3 i4 i5],.agg #[.bool i6,.slice i7 i8 i9,.bool j0,.slice j1 j2 j3]] b (fun p0 v=>∃ (j4:Bool) (j5:OA) (j6 j7:Nat) (j8:Bool) (j9:OA) (k0 k1:Nat),p0= .agg #[.bool j4,.slice j5 j6 j7,.bool j8,.slice j9 k0 k1]/\Heap.le b v/\FCall P B19 #[.agg #[.bool g8,.slice g9 h0 h1,.bool h2,.slice h3 h4 h5],.agg #[.bool j4,.slice j5 j6 j7,.bool j8,.slice j9 k0 k1]] v (fun p1 l4=>∃ (k2:Bool) (k3:OA) (k4 k5:Nat) (k6:Bool) (k7:OA) (k8 k9:Nat),p1= .agg #[.bool k2,.slice k3 k4 k5,.bool k6,.slice k7 k8 k9]/\Heap.le v l4/\∃ m4,f=some m4/\0<=a/\a<(g:Int)/\wpH P (C5r 106 (.pointer (some (m4.add (a.toNat*4)))) (.agg #[.bool k2,.slice k3 k4 k5,.bool k6,.slice k7 k8 k9])) (fun _ l5=>q [I (B5 (c+1))] l5/\g7 [I (B5 (c+1))] l5<g7 [I c] b) l4)))
 (p [I (B5 (a-1))] b/\g6 [I (B5 (a-1))] b<g6 [I a] o))
 (K (.slice f g w) o)) h
theorem A5g a(hvc:A71 prog a h K):FCall prog Pe #[.pointer a] h K:=
 C7 bod func98 [.tmp 2] ⟨[(10,⟨[10],[],[.int .i64 0],⟨([10,11]++Lrg 63 35),[]⟩⟩),(13,⟨[11],[],[.int .i64 0],⟨([11]++Lrg 69 29),[]⟩⟩)],[(9,⟨[],[],[],⟨([6,7,8,9]++Lrg 22 39),[8,9]⟩⟩)],[(7,([0,1,2,5,3,4,6,7,8,9,10],[]))],[],[]⟩ 99 [8,9] [72,81,106,120,130,165,166,167] [] (by kernel_rfl) hvc
def A72(P:Program)(b:OA)(h:Heap)(K:VP):Prop:=
 ∃ b5,b=some b5/\∃ b6,h.cell? (b5.add 1)=some (I b6)/\∃ (p:LP) (z:LN),p [I b6] h/\
 ∀ d e,p [I d] e->∃ b7,b=some b7/\∃ b8,e.cell? (b7.add 0)=some (I b8)/\Br (decide (d<b8)) (∃ b9,b=some b9/\∃ (A:OA),e.cell? (b9.add 2)=some (.pointer A)/\FCall P Cn #[.pointer A,I d] e (fun d9 t=>∃ (B:OA) (C d6:Nat),d9= .slice B C d6/\∃ v,B=some v/\0<=d/\d<(C:Int)/\∃ (D:Bool) (E:OA) (F G:Nat),t.cell? (C5q (v.add (d.toNat*2)) 0)=some (.bool D)/\t.cell? (C5q (v.add (d.toNat*2)) 1)=some (.slice E F G)/\FCall P E9 #[.agg #[.bool D,.slice E F G]] t (fun e0 n=>∃ (H:Bool),e0= .bool H/\Br (!H) (∃ c0,b=some c0/\∃ c1,n.cell? (c0.add 1)=some (I c1)/\FCall P Fz #[.pointer b,I c1,I d] n (fun e1 e2=>e1= .tuple #[]/\K (.bool true) e2))
 (p [I (B5 (d+1))] n/\z [I (B5 (d+1))] n<z [I d] e))))
 (∃ c2,b=some c2/\∃ c3,e.cell? (c2.add 1)=some (I c3)/\∃ (q:LP) (J:LN),q [I c3] e/\
 ∀ a k,q [I a] k->∃ c4,b=some c4/\∃ c5,k.cell? (c4.add 0)=some (I c5)/\Br (decide (a<c5)) (∃ (r:LP) (L:LN),r [I (B5 (a+1))] k/\
 ∀ c f,r [I c] f->∃ c6,b=some c6/\∃ c7,f.cell? (c6.add 0)=some (I c7)/\Br (decide (c<c7)) (∃ c8,b=some c8/\∃ (M:OA),f.cell? (c8.add 2)=some (.pointer M)/\FCall P Cn #[.pointer M,I a] f (fun e3 u=>∃ (N:OA) (O d7:Nat),e3= .slice N O d7/\∃ w,N=some w/\0<=c/\c<(O:Int)/\∃ (Q:Bool) (R:OA) (S T:Nat),u.cell? (C5q (w.add (c.toNat*2)) 0)=some (.bool Q)/\u.cell? (C5q (w.add (c.toNat*2)) 1)=some (.slice R S T)/\FCall P E9 #[.agg #[.bool Q,.slice R S T]] u (fun e4 o=>∃ (V:Bool),e4= .bool V/\Br V (r [I (B5 (c+1))] o/\L [I (B5 (c+1))] o<L [I c] f)
 (∃ c9,b=some c9/\∃ (W:OA),o.cell? (c9.add 2)=some (.pointer W)/\FCall P 182 #[.pointer W,I a,I c] o (fun e5 b2=>e5= .tuple #[]/\∃ d0,b=some d0/\∃ d1,b2.cell? (d0.add 0)=some (I d1)/\∃ (s:LP) (X:LN),s [I 0] b2/\
 ∀ i j,s [I i] j->Br (decide (i<d1)) (∃ d2,b=some d2/\∃ (Z:OA),j.cell? (d2.add 2)=some (.pointer Z)/\FCall P Cn #[.pointer Z,I i] j (fun e6 g=>∃ (l:OA) (m d8:Nat),e6= .slice l m d8/\∃ x,l=some x/\0<=a/\a<(m:Int)/\∃ (a0:Bool) (a1:OA) (a2 a3:Nat),g.cell? (C5q (x.add (a.toNat*2)) 0)=some (.bool a0)/\g.cell? (C5q (x.add (a.toNat*2)) 1)=some (.slice a1 a2 a3)/\∃ y,l=some y/\0<=c/\c<(m:Int)/\∃ (a4:Bool) (a5:OA) (a6 a7:Nat),g.cell? (C5q (y.add (c.toNat*2)) 0)=some (.bool a4)/\g.cell? (C5q (y.add (c.toNat*2)) 1)=some (.slice a5 a6 a7)/\FCall P Qf #[.agg #[.bool a0,.slice a1 a2 a3],.agg #[.bool a4,.slice a5 a6 a7]] g (fun e7 b3=>∃ (a8:Bool) (a9:OA) (b0 b1:Nat),e7= .agg #[.bool a8,.slice a9 b0 b1]/\Heap.le g b3/\∃ d3,l=some d3/\0<=a/\a<(m:Int)/\wpH P (C5r 102 (.pointer (some (d3.add (a.toNat*2)))) (.agg #[.bool a8,.slice a9 b0 b1])) (fun _ b4=>s [I (B5 (i+1))] b4/\X [I (B5 (i+1))] b4<X [I i] j) b3)))
 (∃ d4,b=some d4/\∃ d5,j.cell? (d4.add 1)=some (I d5)/\FCall P Fz #[.pointer b,I d5,I a] j (fun e8 e9=>e8= .tuple #[]/\K (.bool true) e9)))))))
 (q [I (B5 (a+1))] f/\J [I (B5 (a+1))] f<J [I a] k))
 (K (.bool false) k))
theorem A5h a(hvc:A72 prog a h K):FCall prog Pf #[.pointer a] h K:=
 C7 bod func119 [.tmp 2] { loops:=[(2,⟨[3],[],[.int .i64 0],⟨([2,3]++Lrg 12 26),[]⟩⟩),(8,⟨[4],[],[.int .i64 0],⟨([2,4,5,6,7]++Lrg 42 68),[]⟩⟩),(11,⟨[5],[],[.int .i64 0],⟨([2,5,6,7]++Lrg 52 58),[]⟩⟩),(16,⟨[81],[],[.int .i64 0],⟨([6,7]++Lrg 81 22),[]⟩⟩)] } 110 [] [138,144,181,182,183] [181,182] (by kernel_rfl) hvc
def A3g(P:Program)(i:OA)(a:Int)(b:Int)(h:Heap)(K:VP):Prop:=
 Br (a==b) (K (.tuple #[]) h)
 (∃ z,i=some z/\∃ (m:OA),h.cell? (z.add 2)=some (.pointer m)/\FCall P A4u #[.pointer m,I a,I b] h (fun G x=>G= .tuple #[]/\∃ A,i=some A/\∃ B,x.cell? (A.add 0)=some (I B)/\∃ (j:LP) (n:LN),j [I 0] x/\
 ∀ c g,j [I c] g->Br (decide (c<B)) (∃ C,i=some C/\∃ (o:OA),g.cell? (C.add 2)=some (.pointer o)/\FCall P Cn #[.pointer o,I c] g (fun H f=>∃ (d:OA) (e F:Nat),H= .slice d e F/\∃ k,d=some k/\0<=b/\b<(e:Int)/\∃ (p:Bool) (q:OA) (r s:Nat),f.cell? (C5q (k.add (b.toNat*2)) 0)=some (.bool p)/\f.cell? (C5q (k.add (b.toNat*2)) 1)=some (.slice q r s)/\∃ l,d=some l/\0<=a/\a<(e:Int)/\∃ (t:Bool) (u:OA) (v w:Nat),f.cell? (C5q (l.add (a.toNat*2)) 0)=some (.bool t)/\f.cell? (C5q (l.add (a.toNat*2)) 1)=some (.slice u v w)/\∃ D,d=some D/\0<=a/\a<(e:Int)/\wpH P (C5r 102 (.pointer (some (D.add (a.toNat*2)))) (.agg #[.bool p,.slice q r s])) (fun _ J=>∃ E,d=some E/\0<=b/\b<(e:Int)/\wpH P (C5r 102 (.pointer (some (E.add (b.toNat*2)))) (.agg #[.bool t,.slice u v w])) (fun _ y=>j [I (B5 (c+1))] y/\n [I (B5 (c+1))] y<n [I c] g) J) f))
 (K (.tuple #[]) g)))
theorem A3f a b c(hvc:A3g prog a b c h K):FCall prog Fz #[.pointer a,I b,I c] h K:=
 C7 bod func181 [] { loops:=[(3,⟨[22],[],[.int .i64 0],⟨([6,7]++Lrg 22 24),[]⟩⟩)] } 46 [] [142,144] [142] (by kernel_rfl) hvc
def B7q(P:Program) (h:Heap)(K:VP):Prop:=
 wpH P (C5s 23 4 #[(0,.string ({ data:=#[52] }:ByteArray)),(1,.string ({ data:=#[50] }:ByteArray)),(2,.string ({ data:=#[50] }:ByteArray)),(3,.string ({ data:=#[49] }:ByteArray))]) (fun O Q=>∃ (c:OA) (d e:Nat),O= .slice c d e/\FCall P Hy #[.agg #[I 2,I 2,.slice c d e]] Q (fun R S=>∃ (C:Int) (D:Int) (f:OA) (g i:Nat) (j:OA) (k l:Nat) (m:Bool) (n:Int),R= .tuple #[.agg #[I C,I D,.slice f g i,.slice j k l],.bool m,I n]/\wpH P (C5s 23 4 #[(0,.string ({ data:=#[48] }:ByteArray)),(1,.string ({ data:=#[49] }:ByteArray)),(2,.string ({ data:=#[49] }:ByteArray)),(3,.string ({ data:=#[48] }:ByteArray))]) (fun T V=>∃ (o:OA) (p q:Nat),T= .slice o p q/\FCall P Hy #[.agg #[I 2,I 2,.slice o p q]] V (fun W a=>∃ (E:Int) (F:Int) (G:OA) (H J:Nat) (L:OA) (M N:Nat) (r:Bool) (s:Int),W= .tuple #[.agg #[I E,I F,.slice G H J,.slice L M N],.bool r,I s]/\Br m (Br (n==(0:Int)) (wpH P (C5s 23 2 #[(0,.string ({ data:=#[52] }:ByteArray)),(1,.string ({ data:=#[48] }:ByteArray))]) (fun X Z=>∃ (t:OA) (u v:Nat),X= .slice t u v/\FCall P Ei #[.slice j k l,.slice t u v] Z (fun a0 B=>∃ (w:Bool),a0= .bool w/\Br w (wpH P (C5s 23 4 #[(0,.string ({ data:=#[49] }:ByteArray)),(1,.string ({ data:=#[48] }:ByteArray)),(2,.string ({ data:=#[49,47,50] }:ByteArray)),(3,.string ({ data:=#[49] }:ByteArray))]) (fun a1 a2=>∃ (x:OA) (y z:Nat),a1= .slice x y z/\FCall P Ei #[.slice f g i,.slice x y z] a2 (fun a3 b=>∃ (A:Bool),a3= .bool A/\Br A (Br (!r) (K (.bool (s==(0:Int))) b)
 (K (.bool false) b))
 (K (.bool false) b))) B)
 (K (.bool false) B))) a)
 (K (.bool false) a))
 (K (.bool false) a))) S)) h
theorem B30 (hvc:B7q prog  h K):FCall prog Jh #[] h K:=
 C7 bod func33 [.tmp 0] an0 47 [1,4] [49,60] [] (by kernel_rfl) hvc
def Yb(P:Program)(f9:OA)(G i7:Nat)(g0:Int)(g1:OA)(H i8:Nat)(h:Heap)(K:VP):Prop:=
 FCall P B1d #[I g0,I 4] h (fun g4 g5=>∃ b,g4=I b/\∃ (q:LP) (r:LN),q [.slice none 0 0,I 0] g5/\
 ∀ i l f e g,q [.slice i l f,I e] g->Br (decide (e<(B5 ((B5 (b+1))*(B5 (b+1)))))) (Br (decide (e<(G:Int))) (∃ f4,f9=some f4/\0<=e/\e<(G:Int)/\∃ (J:ByteArray),g.cell? (f4.add (e.toNat*1))=some (.string J)/\FCall P A6e #[.string J] g (fun g6 g7=>∃ (L:Bool) (M:OA) (N O:Nat) (Q:Bool) (R:OA) (S T:Nat),g6= .agg #[.bool L,.slice M N O,.bool Q,.slice R S T]/\wpH P (C5s 58 1 #[(0,.agg #[.bool L,.slice M N O,.bool Q,.slice R S T])]) (fun g8 g9=>∃ (V:OA) (W X:Nat),g8= .slice V W X/\wpH P (C5v #[58,58] 58 #[.slice i l f,.slice V W X]) (fun h0 e9=>∃ (t:OA) (u v:Nat),h0= .slice t u v/\q [.slice t u v,I (B5 (e+1))] e9/\r [.slice t u v,I (B5 (e+1))] e9<r [.slice i l f,I e] g) g9) g7))
 (wpH P (C5s 58 1 #[(0,.agg #[.bool false,.slice none 0 0,.bool false,.slice none 0 0])]) (fun h1 h2=>∃ (Z:OA) (a0 a1:Nat),h1= .slice Z a0 a1/\wpH P (C5v #[58,58] 58 #[.slice i l f,.slice Z a0 a1]) (fun h3 f0=>∃ (w:OA) (x y:Nat),h3= .slice w x y/\q [.slice w x y,I (B5 (e+1))] f0/\r [.slice w x y,I (B5 (e+1))] f0<r [.slice i l f,I e] g) h2) g))
 (∃ (z:LP) (a2:LN),z [.slice none 0 0,I 0] g/\
 ∀ m n o c s,z [.slice m n o,I c] s->Br (decide (c<(B5 (b+1)))) ((0<=B5 ((B5 (c+1))*(B5 (b+1)))/\B5 ((B5 (c+1))*(B5 (b+1)))<=(f:Int))/\(0<=B5 (c*(B5 (b+1)))/\B5 (c*(B5 (b+1)))<=(((B5 ((B5 (c+1))*(B5 (b+1)))).toNat:Nat):Int))/\wpH P (C5s 52 1 #[(0,.slice (K9 i f ((B5 (c*(B5 (b+1)))).toNat) 4) (((B5 ((B5 (c+1))*(B5 (b+1)))).toNat)-((B5 (c*(B5 (b+1)))).toNat)) (f-((B5 (c*(B5 (b+1)))).toNat)))]) (fun h4 h5=>∃ (a3:OA) (a4 a5:Nat),h4= .slice a3 a4 a5/\wpH P (C5v #[52,52] 52 #[.slice m n o,.slice a3 a4 a5]) (fun h6 f1=>∃ (A:OA) (B C:Nat),h6= .slice A B C/\z [.slice A B C,I (B5 (c+1))] f1/\a2 [.slice A B C,I (B5 (c+1))] f1<a2 [.slice m n o,I c] s) h5) s)
 (FCall P A4t #[.slice m n o] s (fun h7 h8=>∃ (a6:OA) (a7 a8:Nat),h7= .slice a6 a7 a8/\FCall P A02 #[.slice a6 a7 a8,.slice m n o] h8 (fun h9 i0=>∃ (j:OA) (k D:Nat),h9= .slice j k D/\∃ (E:LP) (a9:LN),E [I 0] i0/\
 ∀ a d,E [I a] d->Br (decide (a<(B5 (b+1)))) (Br (decide (a<(H:Int))) (∃ f5,j=some f5/\0<=a/\a<(k:Int)/\∃ (b0:OA) (b1 g2:Nat),d.cell? (f5.add (a.toNat*1))=some (.slice b0 b1 g2)/\∃ f6,j=some f6/\0<=a/\a<(k:Int)/\∃ (b2:OA) (b3 g3:Nat),d.cell? (f6.add (a.toNat*1))=some (.slice b2 b3 g3)/\∃ p,b2=some p/\0<=a/\a<(b3:Int)/\∃ (b4:Bool) (b5:OA) (b6 b7:Nat) (b8:Bool) (b9:OA) (c0 c1:Nat),d.cell? (C5q (p.add (a.toNat*4)) 0)=some (.bool b4)/\d.cell? (C5q (p.add (a.toNat*4)) 1)=some (.slice b5 b6 b7)/\d.cell? (C5q (p.add (a.toNat*4)) 2)=some (.bool b8)/\d.cell? (C5q (p.add (a.toNat*4)) 3)=some (.slice b9 c0 c1)/\∃ f7,g1=some f7/\0<=a/\a<(H:Int)/\∃ (c2:ByteArray),d.cell? (f7.add (a.toNat*1))=some (.string c2)/\FCall P A6e #[.string c2] d (fun i1 F=>∃ (c3:Bool) (c4:OA) (c5 c6:Nat) (c7:Bool) (c8:OA) (c9 d0:Nat),i1= .agg #[.bool c3,.slice c4 c5 c6,.bool c7,.slice c8 c9 d0]/\Heap.le d F/\FCall P A4q #[.agg #[.bool b4,.slice b5 b6 b7,.bool b8,.slice b9 c0 c1],.agg #[.bool c3,.slice c4 c5 c6,.bool c7,.slice c8 c9 d0]] F (fun i2 f2=>∃ (d1:Bool) (d2:OA) (d3 d4:Nat) (d5:Bool) (d6:OA) (d7 d8:Nat),i2= .agg #[.bool d1,.slice d2 d3 d4,.bool d5,.slice d6 d7 d8]/\Heap.le F f2/\∃ f8,b0=some f8/\0<=a/\a<(b1:Int)/\wpH P (C5r 66 (.pointer (some (f8.add (a.toNat*4)))) (.agg #[.bool d1,.slice d2 d3 d4,.bool d5,.slice d6 d7 d8])) (fun _ f3=>E [I (B5 (a+1))] f3/\a9 [I (B5 (a+1))] f3<a9 [I a] d) f2)))
 (FCall P Tu #[.slice j k D] d (fun i3 i4=>∃ (d9:Int) (e0:Int) (e1:OA) (e2 e3:Nat),i3= .agg #[I d9,I e0,.slice e1 e2 e3]/\K (.agg #[I d9,I e0,.slice e1 e2 e3]) i4)))
 (FCall P Tu #[.slice j k D] d (fun i5 i6=>∃ (e4:Int) (e5:Int) (e6:OA) (e7 e8:Nat),i5= .agg #[I e4,I e5,.slice e6 e7 e8]/\K (.agg #[I e4,I e5,.slice e6 e7 e8]) i6)))))))
theorem A0x a b c d e f g(hvc:Yb prog a b c d e f g h K):FCall prog Hw #[.slice a b c,I d,.slice e f g] h K:=
 C7 bod func34 [.cell 6 25] { loops:=[(4,⟨[7,8],[],[.slice none 0 0,.int .i64 0],⟨([7,8,9]++Lrg 17 21),[9]⟩⟩),(12,⟨[10,11],[],[.slice none 0 0,.int .i64 0],⟨([10,11]++Lrg 38 17),[]⟩⟩),(17,⟨[13],[],[.int .i64 0],⟨([13]++Lrg 59 30),[]⟩⟩)] } 91 [6,9] [29,64,91,92,93,94] [] (by kernel_rfl) hvc
def B7z(P:Program)(f:OA)(a g:Nat)(i:OA)(b j:Nat)(h:Heap)(K:VP):Prop:=
 Br (decide ((a:Int)<=(20:Int))) (Br (decide ((b:Int)<=(8:Int))) (FCall P Rp #[I 8,.slice f a g] h (fun k e=>∃ (c:Bool),k= .bool c/\Br c (FCall P Rp #[I 8,.slice i b j] e (fun l m=>∃ (d:Bool),l= .bool d/\K (.bool d) m))
 (K (.bool false) e)))
 (K (.bool false) h))
 (K (.bool false) h)
theorem B3i a b c d e f(hvc:B7z prog a b c d e f h K):FCall prog A00 #[.slice a b c,.slice d e f] h K:=
 C7 bod func32 [.tmp 4] an0 21 [] [14] [] (by kernel_rfl) hvc
def Ob(P:Program)(z:OA)(A B:Nat)(b0:Int)(C:OA)(D E:Nat)(h:Heap)(K:VP):Prop:=
 FCall P A00 #[.slice z A B,.slice C D E] h (fun b4 a4=>∃ (F:Bool),b4= .bool F/\Br (!F) (FCall P Jh #[] a4 (fun b5 b6=>∃ (G:Bool),b5= .bool G/\K (.bool G) b6))
 (FCall P Hw #[.slice z A B,I b0,.slice C D E] a4 (fun b7 b8=>∃ (c:Int) (d:Int) (e:OA) (f g:Nat),b7= .agg #[I c,I d,.slice e f g]/\FCall P Hy #[.agg #[I c,I d,.slice e f g]] b8 (fun b9 c0=>∃ (n:Int) (o:Int) (p:OA) (q r:Nat) (k:OA) (i s:Nat) (m:Bool) (H:Int),b9= .tuple #[.agg #[I n,I o,.slice p q r,.slice k i s],.bool m,I H]/\FCall P Jk #[.agg #[I c,I d,.slice e f g]] c0 (fun c1 c2=>∃ (b1:OA) (b2 b3:Nat) (J:Bool) (L:Int),c1= .tuple #[.slice b1 b2 b3,.bool J,I L]/\FCall P Jl #[.agg #[I c,I d,.slice e f g]] c2 (fun c3 b=>∃ (t:Int) (M:Int) (u:Int) (N:Int),c3= .tuple #[I t,I M,I u,I N]/\Br (H != (0:Int)) (K (.bool false) b)
 (Br (L != (0:Int)) (K (.bool false) b)
 (Br (N != (0:Int)) (K (.bool false) b)
 (Br (m==J) (K (.bool false) b)
 (Br (!(m==(u==(0:Int)))) (K (.bool false) b)
 (Br ((B5 ((B5 (t+M))+u)) != c) (K (.bool false) b)
 (Br (!m) (FCall P Jh #[] b (fun c4 c5=>∃ (O:Bool),c4= .bool O/\K (.bool O) c5))
 (FCall P Nj #[.agg #[I n,I o,.slice p q r,.slice k i s]] b (fun c6 c7=>∃ (Q:Int) (R:Int) (S:OA) (T V:Nat) (W:Int),c6= .tuple #[.agg #[I Q,I R,.slice S T V],I W]/\∃ (v:LP) (X:LN),v [I 0,I 0] c7/\
 ∀ l a j,v [I l,I a] j->Br (decide (a<(i:Int))) (∃ a7,k=some a7/\0<=a/\a<(i:Int)/\∃ (Z:ByteArray),j.cell? (a7.add (a.toNat*1))=some (.string Z)/\FCall P Tq #[.string Z] j (fun c8 w=>∃ a8,c8=I a8/\Br (decide (a8<(0:Int))) (K (.bool false) w)
 (∃ a9,k=some a9/\0<=a/\a<(i:Int)/\∃ (a0:ByteArray),w.cell? (a9.add (a.toNat*1))=some (.string a0)/\FCall P Tq #[.string a0] w (fun c9 a5=>∃ y,c9=I y/\v [I (B5 (l+y)),I (B5 (a+1))] a5/\X [I (B5 (l+y)),I (B5 (a+1))] a5<X [I l,I a] j))))
 (Br (W==(0:Int)) (FCall P Kw #[.agg #[I Q,I R,.slice S T V],.agg #[I c,I d,.slice e f g]] j (fun d0 a6=>∃ (a1:Bool),d0= .bool a1/\Br a1 (FCall P A04 #[.agg #[I c,I d,.slice e f g],.agg #[I n,I o,.slice p q r,.slice k i s]] a6 (fun d1 x=>∃ (a2:Bool),d1= .bool a2/\Br a2 (Br (l==t) (FCall P Jh #[] x (fun d2 d3=>∃ (a3:Bool),d2= .bool a3/\K (.bool a3) d3))
 (K (.bool false) x))
 (K (.bool false) x)))
 (K (.bool false) a6)))
 (K (.bool false) j))))))))))))))))
theorem Rh a b c d e f g(hvc:Ob prog a b c d e f g h K):FCall prog Hx #[.slice a b c,I d,.slice e f g] h K:=
 C7 bod func11 [.tmp 6] { loops:=[(14,⟨[20,21],[],[.int .i64 0,.int .i64 0],⟨([6,20,21]++Lrg 89 22),[]⟩⟩)] } 131 [7,8,18] [19,32,33,34,36,42,44,48,49,58] [] (by kernel_rfl) hvc
def B7x(P:Program)(l:OA)(c n:Nat)(m:OA)(e o:Nat)(h:Heap)(K:VP):Prop:=
 Br ((c:Int) != (e:Int)) (K (.bool false) h)
 (∃ (d:LP) (f:LN),d [I 0] h/\
 ∀ a b,d [I a] b->Br (decide (a<(c:Int))) (∃ j,l=some j/\0<=a/\a<(c:Int)/\∃ (g:ByteArray),b.cell? (j.add (a.toNat*1))=some (.string g)/\∃ k,m=some k/\0<=a/\a<(e:Int)/\∃ (i:ByteArray),b.cell? (k.add (a.toNat*1))=some (.string i)/\Br (!(C5t g==C5t i)) (K (.bool false) b)
 (d [I (B5 (a+1))] b/\f [I (B5 (a+1))] b<f [I a] b))
 (K (.bool true) b))
theorem B3f a b c d e f(hvc:B7x prog a b c d e f h K):FCall prog Zz #[.slice a b c,.slice d e f] h K:=
 C7 bod func111 [.tmp 4] { loops:=[(4,⟨[13],[],[.int .i64 0],⟨([4,5]++Lrg 13 13),[]⟩⟩)] } 26 [] [] [] (by kernel_rfl) hvc
end Go.Proofs.YtajkakhfcokljaaGreatDoor
