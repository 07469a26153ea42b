/-
  Texts of this proof, merged by a program of ours.
-/
import Derived.Test.YtajkakhfcokljaaGreatDoorProg
import Derived.Test.YtajkakhfcokljaaGreatDoorG05
import Derived.Test.YtajkakhfcokljaaGreatDoorG06
import Derived.Test.YtajkakhfcokljaaGreatDoorG13
import Derived.Test.YtajkakhfcokljaaGreatDoorG07
import Derived.Test.YtajkakhfcokljaaGreatDoorG10
import Derived.Test.YtajkakhfcokljaaGreatDoorG27
import Derived.Test.YtajkakhfcokljaaGreatDoorG09
import Derived.Test.YtajkakhfcokljaaGreatDoorG29
open Go.Proofs.Tryz
open _root_.Go.Addr renaming add->C6d
open _root_.Go.Builtin renaming append_->C6g
open _root_.Go.Instr renaming storeAt->C6e,buildSlice->C6f
namespace Go.Proofs.YtajkakhfcokljaaGreatDoor
open Go
set_option maxRecDepth 100000
set_option linter.unusedVariables false
variable {h:Heap} {K:VP}
abbrev B7y:Nat:=55
abbrev Tw:Nat:=95
abbrev Nh:Nat:=49
abbrev C2g:Nat:=42
abbrev C3z:Nat:=44
abbrev C1g:Nat:=36
abbrev C3y:Nat:=56
abbrev A04:Nat:=52
abbrev Pe:Nat:=126
abbrev S9:Nat:=118
abbrev Hz:Nat:=96
abbrev En:Nat:=48
abbrev A8p:Nat:=120
abbrev Ci:Nat:=122
abbrev Jj:Nat:=165
abbrev C1f:Nat:=98
abbrev Pd:Nat:=119
abbrev Gb:Nat:=181
abbrev C2c:Nat:=41
abbrev B7x:Nat:=99
abbrev C03:Nat:=37
abbrev C2d:Nat:=50
abbrev C2e:Nat:=43
abbrev C3w:Nat:=45
abbrev C3t:Nat:=124
abbrev C3v:Nat:=185
abbrev C1d:Nat:=51
abbrev C4r:Nat:=40
abbrev C3s:Nat:=57
abbrev C3u:Nat:=53
abbrev Fx:Nat:=33
abbrev Hy:Nat:=34
abbrev A01:Nat:=32
abbrev C4p:Nat:=54
abbrev C2b:Nat:=10
abbrev B7v:Nat:=9
abbrev B7w:Nat:=7
abbrev B63:Nat:=5
abbrev A9n:Nat:=6
abbrev B23:Nat:=11
abbrev A02:Nat:=8
abbrev Tu:Nat:=12
abbrev C3p:Nat:=111
abbrev C43:Nat:=72
abbrev Fh:Nat:=173
abbrev C1m:Nat:=145
def C3g(P:Program)(f:Int)(d:Int)(g:OA)(i w:Nat)(h:Heap)(K:VP):Prop:=
 FCall P Hv #[.agg #[I f,I d,.slice g i w]] h (fun x l=>∃ (m:OA) (n o:Nat) (p:Bool),x= .tuple #[.slice m n o,.bool p]/\Br (!p) (K (.tuple #[.slice none 0 0,I 1]) l)
 (Br (f != d) (K (.tuple #[.slice none 0 0,I 4]) l)
 (∃ (j:LP) (q:LN),j [I 0] l/\
 ∀ a e,j [I a] e->Br (decide (a<f)) (∃ (k:LP) (r:LN),k [I 0] e/\
 ∀ b c,k [I b] c->Br (decide (b<a)) (∃ u,g=some u/\0<=B7 ((B7 (a*d))+b)/\B7 ((B7 (a*d))+b)<(i:Int)/\∃ (s:ByteArray),c.cell? (u.add ((B7 ((B7 (a*d))+b)).toNat*1))=some (.string s)/\∃ v,g=some v/\0<=B7 ((B7 (b*d))+a)/\B7 ((B7 (b*d))+a)<(i:Int)/\∃ (t:ByteArray),c.cell? (v.add ((B7 ((B7 (b*d))+a)).toNat*1))=some (.string t)/\Br (!(ByteArray.toList s==ByteArray.toList t)) (K (.tuple #[.slice none 0 0,I 4]) c)
 (k [I (B7 (b+1))] c/\r [I (B7 (b+1))] c<r [I b] c))
 (j [I (B7 (a+1))] c/\q [I (B7 (a+1))] c<q [I a] e))
 (K (.tuple #[.slice m n o,I 0]) e))))
theorem B77 a b c d e(hvc:C3g prog a b c d e h K):FCall prog Tw #[.agg #[I a,I b,.slice c d e]] h K:=
 D5 bod func95 [.tmp 2,.tmp 3] { loops:=[(7,⟨[22],[],[.int .i64 0],⟨([2,3,6,7]++Lrg 22 30),[]⟩⟩),(10,⟨[26],[],[.int .i64 0],⟨([2,3,7]++Lrg 26 25),[]⟩⟩)] } 53 [1] [67] [] (by kernel_rfl) hvc
def B4g(P:Program)(c:Int)(f:Int)(B:OA)(C D:Nat)(h:Heap)(K:VP):Prop:=
 FCall P Tw #[.agg #[I c,I f,.slice B C D]] h (fun E x=>∃ (g:OA) (i j:Nat) (d:Int),E= .tuple #[.slice g i j,I d]/\Br (d != (0:Int)) (K (.tuple #[.agg #[I 0,I 0,.slice none 0 0,.slice none 0 0],.bool false,I d]) x)
 (FCall P Hz #[.slice g i j,I c] x (fun F a=>∃ (e:OA) (k:Bool),F= .tuple #[.pointer e,.bool k]/\Br (!k) (K (.tuple #[.agg #[I 0,I 0,.slice none 0 0,.slice none 0 0],.bool false,I 0]) a)
 (∃ z,e=some z/\∃ (l:OA) (m n:Nat),a.cell? (z.add 5)=some (.slice l m n)/\FCall P Em #[.slice l m n] a (fun G b=>∃ (o:OA) (p q:Nat),G= .slice o p q/\Heap.le a b/\∃ A,e=some A/\∃ (r:OA) (s t:Nat),b.cell? (A.add 6)=some (.slice r s t)/\FCall P Em #[.slice r s t] b (fun H y=>∃ (u:OA) (v w:Nat),H= .slice u v w/\Heap.le b y/\K (.tuple #[.agg #[I c,I f,.slice o p q,.slice u v w],.bool true,I 0]) y))))))
theorem A9i a b c d e(hvc:B4g prog a b c d e h K):FCall prog Nh #[.agg #[I a,I b,.slice c d e]] h K:=
 D5 bod func49 [.cell 2 72,.tmp 3,.tmp 4] { orders:=[(7,((Lrg 0 8++[10,8,9,11]),[]))] } 46 [1,2,9] [95,96,97] [] (by kernel_rfl) hvc
def B8y(P:Program)(a:Int)(c:Int)(d:OA)(e f:Nat)(b:Int)(h:Heap)(K:VP):Prop:=
 FCall P Tw #[.agg #[I a,I c,.slice d e f]] h (fun b6 g=>∃ (b1:OA) (b2 b3:Nat) (i:Int),b6= .tuple #[.slice b1 b2 b3,I i]/\Br (i != (0:Int)) (K (.tuple #[.agg #[I 0,I 0,.slice none 0 0],I i]) g)
 (Br (decide (b<(1:Int))) (K (.tuple #[.agg #[I 0,I 0,.slice none 0 0],I 3]) g)
 (Br (decide (b>=a)) (K (.tuple #[.agg #[I 0,I 0,.slice none 0 0],I 3]) g)
 (FCall P Pe #[.agg #[I a,I c,.slice d e f],I 0,I b,I 0,I b] g (fun b7 b8=>∃ (q:Int) (r:Int) (s:OA) (t u:Nat),b7= .agg #[I q,I r,.slice s t u]/\FCall P Pb #[.agg #[I q,I r,.slice s t u]] b8 (fun b9 k=>∃ (v:Int) (w:Int) (x:OA) (y z:Nat) (j:Int),b9= .tuple #[.agg #[I v,I w,.slice x y z],I j]/\Br (j != (0:Int)) (K (.tuple #[.agg #[I 0,I 0,.slice none 0 0],I j]) k)
 (FCall P Pe #[.agg #[I a,I c,.slice d e f],I b,I a,I 0,I b] k (fun c0 l=>∃ (A:Int) (B:Int) (C:OA) (D E:Nat),c0= .agg #[I A,I B,.slice C D E]/\Heap.le k l/\FCall P A6v #[.agg #[I A,I B,.slice C D E],.agg #[I v,I w,.slice x y z]] l (fun c1 m=>∃ (F:Int) (G:Int) (H:OA) (J L:Nat) (b4:Int),c1= .tuple #[.agg #[I F,I G,.slice H J L],I b4]/\Heap.le l m/\FCall P Pe #[.agg #[I a,I c,.slice d e f],I 0,I b,I b,I a] m (fun c2 n=>∃ (M:Int) (N:Int) (O:OA) (Q R:Nat),c2= .agg #[I M,I N,.slice O Q R]/\Heap.le m n/\FCall P A6v #[.agg #[I F,I G,.slice H J L],.agg #[I M,I N,.slice O Q R]] n (fun c3 o=>∃ (S:Int) (T:Int) (V:OA) (W X:Nat) (b5:Int),c3= .tuple #[.agg #[I S,I T,.slice V W X],I b5]/\Heap.le n o/\FCall P Pe #[.agg #[I a,I c,.slice d e f],I b,I a,I b,I a] o (fun c4 p=>∃ (Z:Int) (a0:Int) (a1:OA) (a2 a3:Nat),c4= .agg #[I Z,I a0,.slice a1 a2 a3]/\Heap.le o p/\FCall P B22 #[.agg #[I Z,I a0,.slice a1 a2 a3],.agg #[I S,I T,.slice V W X]] p (fun c5 b0=>∃ (a4:Int) (a5:Int) (a6:OA) (a7 a8:Nat) (a9:Int),c5= .tuple #[.agg #[I a4,I a5,.slice a6 a7 a8],I a9]/\Heap.le p b0/\K (.tuple #[.agg #[I a4,I a5,.slice a6 a7 a8],I a9]) b0)))))))))))))
theorem B4f a b c d e f(hvc:B8y prog a b c d e f h K):FCall prog A04 #[.agg #[I a,I b,.slice c d e],I f] h K:=
 D5 bod func52 [.cell 4 25,.tmp 5] { orders:=[(10,([0,1,2,3,5,10,4,6,7,8,9,11,12],[])),(11,([0,1,2,3,4,10,5,6,7,8,9,11,12],[])),(12,([0,1,2,3,4,6,5,7,8,9,10,11],[]))] } 76 [2,4,9,11,13] [26,95,125,126,127] [] (by kernel_rfl) hvc
def C3h(P:Program)(w:Int)(b:Int)(u:OA)(x l:Nat)(q:Int)(r:Int)(c:Int)(d:Int)(h:Heap)(K:VP):Prop:=
 ∃ (m:LP) (s:LN),m [I q,I (B7 (r-q)),I (B7 (d-c)),.slice none 0 0] h/\
 ∀ a e f g i j k,m [I a,I e,I f,.slice g i j] k->Br (decide (a<r)) ((0<=B7 ((B7 (a*b))+d)/\B7 ((B7 (a*b))+d)<=(l:Int))/\(0<=B7 ((B7 (a*b))+c)/\B7 ((B7 (a*b))+c)<=(((B7 ((B7 (a*b))+d)).toNat:Nat):Int))/\wpH P (C6g #[23,23] 23 #[.slice g i j,.slice (K7 u l ((B7 ((B7 (a*b))+c)).toNat) 1) (((B7 ((B7 (a*b))+d)).toNat)-((B7 ((B7 (a*b))+c)).toNat)) (l-((B7 ((B7 (a*b))+c)).toNat))]) (fun v t=>∃ (n:OA) (o p:Nat),v= .slice n o p/\m [I (B7 (a+1)),I e,I f,.slice n o p] t/\s [I (B7 (a+1)),I e,I f,.slice n o p] t<s [I a,I e,I f,.slice g i j] k) k)
 (K (.agg #[I e,I f,.slice g i j]) k)
theorem B78 a b c d e f g i j(hvc:C3h prog a b c d e f g i j h K):FCall prog Pe #[.agg #[I a,I b,.slice c d e],I f,I g,I i,I j] h K:=
 D5 bod func126 [.cell 10 25] { loops:=[(3,⟨[12],[(11,3)],[.int .i64 0,.int .i64 0,.int .i64 0,.slice none 0 0],⟨([12]++Lrg 21 24),[11]⟩⟩)] } 46 [5,10,11] [] [1000000000] (by kernel_rfl) hvc
def Db(P:Program)(i:OA)(j k:Nat)(a:Int)(h:Heap)(K:VP):Prop:=
 FCall P Cv #[.slice i j k,I a] h (fun l m=>∃ (b:OA),l= .pointer b/\FCall P Qf #[I 1] m (fun n o=>∃ (c:Bool) (d:OA) (e f:Nat),n= .agg #[.bool c,.slice d e f]/\wpH P (Instr.box 173 (.agg #[I a,I 0,.pointer b,.bool c,.slice d e f,.slice none 0 0,.slice none 0 0])) (fun p q=>∃ (g:Addr),p= .pointer (some g)/\K (.pointer (some g)) q) o))
theorem Do a b c d(hvc:Db prog a b c d h K):FCall prog S9 #[.slice a b c,I d] h K:=
 D5 bod func118 [.tmp 4] an0 12 [] [68,139] [1000000000] (by kernel_rfl) hvc
def Ye(P:Program)(d7:OA)(d8 d9:Nat)(b:Int)(h:Heap)(K:VP):Prop:=
 FCall P S9 #[.slice d7 d8 d9,I b] h (fun e4 e5=>∃ (c:OA),e4= .pointer c/\wpH P (Instr.makeSlice 95 (I (B7 (b*b))) (I (B7 (b*b)))) (fun e6 e7=>∃ (z:OA) (A B:Nat),e6= .slice z A B/\∃ c5,c=some c5/\wpH P (C6e 95 (.pointer (some (c5.add 5))) (.slice z A B)) (fun _ e8=>wpH P (Instr.makeSlice 95 (I b) (I b)) (fun e9 f0=>∃ (C:OA) (D E:Nat),e9= .slice C D E/\∃ c6,c=some c6/\wpH P (C6e 95 (.pointer (some (c6.add 6))) (.slice C D E)) (fun _ f1=>∃ (r:LP) (s:LN),r [.bool true,I 0] f1/\
 ∀ n a p,r [.bool n,I a] p->Br (decide (a<b)) (FCall P A8p #[.pointer c,I a,I a] p (fun f2 f3=>∃ (e:Bool) (f:OA) (g i:Nat) (j:Bool) (k:OA) (l m:Nat),f2= .agg #[.bool e,.slice f g i,.bool j,.slice k l m]/\FCall P Jj #[.pointer c] f3 (fun f4 f5=>∃ (e0:Int) (F:Bool),f4= .tuple #[I e0,.bool F]/\∃ (u:LP),(FCall P Zt #[.agg #[.bool e,.slice f g i,.bool j,.slice k l m]] f5 (fun f6 b8=>∃ c7,f6=I c7/\Br (decide (c7<(0:Int))) (K (.tuple #[.pointer c,.bool false]) b8)
 (FCall P Mv #[.agg #[.bool e,.slice f g i,.bool j,.slice k l m]] b8 (fun f7 w=>∃ (G:Bool),f7= .bool G/\Br G (Br F (K (.tuple #[.pointer c,.bool false]) w)
 (u [.bool n] w))
 (u [.bool n] w)))))/\
 ∀ q t,u [.bool q] t->∃ c8,c=some c8/\∃ (H:OA) (J e1:Nat),t.cell? (c8.add 5)=some (.slice H J e1)/\FCall P Rp #[I 1] t (fun f8 b9=>∃ (L:Bool) (M:OA) (N O:Nat) (Q:Bool) (R:OA) (S T:Nat),f8= .agg #[.bool L,.slice M N O,.bool Q,.slice R S T]/\Heap.le t b9/\∃ c9,H=some c9/\0<=B7 ((B7 (a*b))+a)/\B7 ((B7 (a*b))+a)<(J:Int)/\wpH P (C6e 106 (.pointer (some (c9.add ((B7 ((B7 (a*b))+a)).toNat*4)))) (.agg #[.bool L,.slice M N O,.bool Q,.slice R S T])) (fun _ c0=>∃ d0,c=some d0/\∃ (V:OA) (W e2:Nat),c0.cell? (d0.add 6)=some (.slice V W e2)/\∃ d1,V=some d1/\0<=a/\a<(W:Int)/\wpH P (C6e 106 (.pointer (some (d1.add (a.toNat*4)))) (.agg #[.bool e,.slice f g i,.bool j,.slice k l m])) (fun _ f9=>FCall P Mv #[.agg #[.bool e,.slice f g i,.bool j,.slice k l m]] f9 (fun g0 x=>∃ (X:Bool),g0= .bool X/\Br X (∃ d2,c=some d2/\∃ d3,x.cell? (d2.add 1)=some (I d3)/\∃ d4,c=some d4/\wpH P (C6e 3 (.pointer (some (d4.add 1))) (I (B7 (d3+1)))) (fun _ c1=>r [.bool q,I (B7 (a+1))] c1/\s [.bool q,I (B7 (a+1))] c1<s [.bool n,I a] p) x)
 (∃ (v:LP) (Z:LN),v [I (B7 (a+1))] x/\
 ∀ d o,v [I d] o->Br (decide (d<b)) (∃ d5,c=some d5/\∃ (a0:OA) (a1 e3:Nat),o.cell? (d5.add 5)=some (.slice a0 a1 e3)/\FCall P A8p #[.pointer c,I d,I a] o (fun g1 y=>∃ (a2:Bool) (a3:OA) (a4 a5:Nat) (a6:Bool) (a7:OA) (a8 a9:Nat),g1= .agg #[.bool a2,.slice a3 a4 a5,.bool a6,.slice a7 a8 a9]/\Heap.le o y/\FCall P Xe #[.agg #[.bool a2,.slice a3 a4 a5,.bool a6,.slice a7 a8 a9],.agg #[.bool e,.slice f g i,.bool j,.slice k l m]] y (fun g2 c2=>∃ (b0:Bool) (b1:OA) (b2 b3:Nat) (b4:Bool) (b5:OA) (b6 b7:Nat),g2= .agg #[.bool b0,.slice b1 b2 b3,.bool b4,.slice b5 b6 b7]/\Heap.le y c2/\∃ d6,a0=some d6/\0<=B7 ((B7 (d*b))+a)/\B7 ((B7 (d*b))+a)<(a1:Int)/\wpH P (C6e 106 (.pointer (some (d6.add ((B7 ((B7 (d*b))+a)).toNat*4)))) (.agg #[.bool b0,.slice b1 b2 b3,.bool b4,.slice b5 b6 b7])) (fun _ c3=>v [I (B7 (d+1))] c3/\Z [I (B7 (d+1))] c3<Z [I d] o) c2)))
 (FCall P Ci #[.pointer c] o (fun g3 c4=>g3= .tuple #[]/\r [.bool q,I (B7 (a+1))] c4/\s [.bool q,I (B7 (a+1))] c4<s [.bool n,I a] p))))) c0) b9))))
 (K (.tuple #[.pointer c,.bool n]) p)) f0) e8) e7) e5)
theorem A0x a b c d(hvc:Ye prog a b c d h K):FCall prog Hz #[.slice a b c,I d] h K:=
 D5 bod func96 [.tmp 4,.tmp 5] ⟨[(6,⟨[7,29],[],[.bool false,.int .i64 0],⟨([7,8,9,10,11,12]++Lrg 29 75),[9]⟩⟩),(17,⟨[12],[],[.int .i64 0],⟨([12]++Lrg 80 21),[]⟩⟩)],[(12,⟨[7],[],[.bool false],⟨([7]++Lrg 41 10),[]⟩⟩)],[(19,((Lrg 0 12++[13,12,14,15,16]),[]))],[],[]⟩ 106 [9] [72,106,118,120,121,122,165,166] [122] (by kernel_rfl) hvc
def A7p(P:Program)(i:Int)(G:Int)(H:OA)(J L:Nat)(h:Heap)(K:VP):Prop:=
 FCall P Tw #[.agg #[I i,I G,.slice H J L]] h (fun M y=>∃ (m:OA) (n o:Nat) (j:Int),M= .tuple #[.slice m n o,I j]/\Br (j != (0:Int)) (K (.tuple #[I 0,I 0,I 0,I j]) y)
 (FCall P S9 #[.slice m n o,I i] y (fun N O=>∃ (c:OA),N= .pointer c/\∃ (e:LP) (f:LN),e [I 0,I 0] O/\
 ∀ a b g,e [I a,I b] g->FCall P Pd #[.pointer c] g (fun Q d=>∃ (p:Bool),Q= .bool p/\Br p (∃ B,c=some B/\∃ C,d.cell? (B.add 1)=some (I C)/\∃ D,c=some D/\∃ E,d.cell? (D.add 1)=some (I E)/\FCall P A8p #[.pointer c,I C,I E] d (fun R k=>∃ (q:Bool) (r:OA) (s t:Nat) (u:Bool) (v:OA) (w x:Nat),R= .agg #[.bool q,.slice r s t,.bool u,.slice v w x]/\Heap.le d k/\FCall P Zt #[.agg #[.bool q,.slice r s t,.bool u,.slice v w x]] k (fun S l=>∃ F,S=I F/\Heap.le k l/\Br (decide (F>(0:Int))) (FCall P Ci #[.pointer c] l (fun T z=>T= .tuple #[]/\e [I (B7 (a+1)),I b] z/\f [I (B7 (a+1)),I b] z<f [I a,I b] g))
 (FCall P Ci #[.pointer c] l (fun V A=>V= .tuple #[]/\e [I a,I (B7 (b+1))] A/\f [I a,I (B7 (b+1))] A<f [I a,I b] g)))))
 (K (.tuple #[I a,I (B7 ((B7 (i-a))-b)),I b,I 0]) d)))))
theorem A5r a b c d e(hvc:A7p prog a b c d e h K):FCall prog En #[.agg #[I a,I b,.slice c d e]] h K:=
 D5 bod func48 [.tmp 2,.tmp 3,.tmp 4,.tmp 5] { loops:=[(6,⟨[9,10],[],[.int .i64 0,.int .i64 0],⟨([9,10]++Lrg 23 20),[]⟩⟩)] } 51 [1] [95,118,119,120,121,122] [119,122] (by kernel_rfl) hvc
def EAt(P:Program)(e:OA)(a:Int)(d:Int)(h:Heap)(K:VP):Prop:=
 ∃ a1,e=some a1/\∃ (j:OA),h.cell? (a1.add 2)=some (.pointer j)/\∃ g,e=some g/\∃ (k:Bool) (l:OA) (m n:Nat),h.cell? (C6d (g.add 3) 0)=some (.bool k)/\h.cell? (C6d (g.add 3) 1)=some (.slice l m n)/\∃ a2,e=some a2/\∃ (o:OA),h.cell? (a2.add 2)=some (.pointer o)/\∃ a3,o=some a3/\∃ (p:OA) (q a4:Nat),h.cell? (a3.add 2)=some (.slice p q a4)/\∃ c,p=some c/\0<=a/\a<(q:Int)/\∃ (r:Bool) (s:OA) (t u:Nat) (v:Bool) (w:OA) (x y:Nat),h.cell? (C6d (c.add (a.toNat*4)) 0)=some (.bool r)/\h.cell? (C6d (c.add (a.toNat*4)) 1)=some (.slice s t u)/\h.cell? (C6d (c.add (a.toNat*4)) 2)=some (.bool v)/\h.cell? (C6d (c.add (a.toNat*4)) 3)=some (.slice w x y)/\FCall P W9 #[.pointer j,I a] h (fun a6 b=>∃ (z:OA) (A a5:Nat),a6= .slice z A a5/\Heap.le h b/\∃ i,z=some i/\0<=d/\d<(A:Int)/\∃ (B:Bool) (C:OA) (D E:Nat),b.cell? (C6d (i.add (d.toNat*2)) 0)=some (.bool B)/\b.cell? (C6d (i.add (d.toNat*2)) 1)=some (.slice C D E)/\FCall P R2 #[.agg #[.bool B,.slice C D E],.agg #[.bool k,.slice l m n]] b (fun a7 f=>∃ (F:Bool) (G:OA) (H J:Nat) (L:Bool) (M:OA) (N O:Nat),a7= .agg #[.bool F,.slice G H J,.bool L,.slice M N O]/\Heap.le b f/\FCall P Xe #[.agg #[.bool F,.slice G H J,.bool L,.slice M N O],.agg #[.bool r,.slice s t u,.bool v,.slice w x y]] f (fun a8 a0=>∃ (Q:Bool) (R:OA) (S T:Nat) (V:Bool) (W:OA) (X Z:Nat),a8= .agg #[.bool Q,.slice R S T,.bool V,.slice W X Z]/\Heap.le f a0/\K (.agg #[.bool Q,.slice R S T,.bool V,.slice W X Z]) a0)))
theorem C3f a b c(hvc:EAt prog a b c h K):FCall prog A8p #[.pointer a,I b,I c] h K:=
 D5 bod func120 [.cell 6 106] { orders:=[(1,(([0,1,2,3,4,6,9,10,11,12]++Lrg 14 10++[5,7,8,13,24,25]),[]))] } 32 [6] [72,132,144] [] (by kernel_rfl) hvc
def A7o(P:Program)(c:OA)(h:Heap)(K:VP):Prop:=
 ∃ y,c=some y/\∃ a,h.cell? (y.add 1)=some (I a)/\∃ (e:LP) (j:LN),e [I (B7 (a+1))] h/\
 ∀ d b,e [I d] b->∃ z,c=some z/\∃ A,b.cell? (z.add 0)=some (I A)/\Br (decide (d<A)) (∃ B,c=some B/\∃ (k:OA),b.cell? (B.add 2)=some (.pointer k)/\∃ g,c=some g/\∃ (l:Bool) (m:OA) (n o:Nat),b.cell? (C6d (g.add 3) 0)=some (.bool l)/\b.cell? (C6d (g.add 3) 1)=some (.slice m n o)/\FCall P Rw #[.pointer k,I d,I a,I a,.agg #[.bool l,.slice m n o]] b (fun J w=>J= .tuple #[]/\e [I (B7 (d+1))] w/\j [I (B7 (d+1))] w<j [I d] b))
 (∃ C,c=some C/\∃ (p:OA),b.cell? (C.add 2)=some (.pointer p)/\FCall P W9 #[.pointer p,I a] b (fun L f=>∃ (q:OA) (r H:Nat),L= .slice q r H/\∃ i,q=some i/\0<=a/\a<(r:Int)/\∃ (s:Bool) (t:OA) (u v:Nat),f.cell? (C6d (i.add (a.toNat*2)) 0)=some (.bool s)/\f.cell? (C6d (i.add (a.toNat*2)) 1)=some (.slice t u v)/\∃ D,c=some D/\wpH P (C6e 102 (.pointer (some (D.add 3))) (.agg #[.bool s,.slice t u v])) (fun _ x=>∃ E,c=some E/\∃ F,x.cell? (E.add 1)=some (I F)/\∃ G,c=some G/\wpH P (C6e 3 (.pointer (some (G.add 1))) (I (B7 (F+1)))) (fun _ M=>K (.tuple #[]) M) x) f))
theorem A5q a(hvc:A7o prog a h K):FCall prog Ci #[.pointer a] h K:=
 D5 bod func122 [] { loops:=[(2,⟨[3],[],[.int .i64 0],⟨([3]++Lrg 10 20),[]⟩⟩)] } 49 [] [143,144] [143] (by kernel_rfl) hvc
def A7n(P:Program)(e:OA)(h:Heap)(K:VP):Prop:=
 ∃ s,e=some s/\∃ t,h.cell? (s.add 1)=some (I t)/\∃ (g:LP) (j:LN),g [I (B7 (t+1))] h/\
 ∀ b a,g [I b] a->∃ u,e=some u/\∃ v,a.cell? (u.add 0)=some (I v)/\Br (decide (b<v)) (∃ w,e=some w/\∃ (k:OA),a.cell? (w.add 2)=some (.pointer k)/\∃ x,e=some x/\∃ d,a.cell? (x.add 1)=some (I d)/\FCall P W9 #[.pointer k,I b] a (fun z c=>∃ (l:OA) (m y:Nat),z= .slice l m y/\Heap.le a c/\∃ i,l=some i/\0<=d/\d<(m:Int)/\∃ (n:Bool) (o:OA) (p q:Nat),c.cell? (C6d (i.add (d.toNat*2)) 0)=some (.bool n)/\c.cell? (C6d (i.add (d.toNat*2)) 1)=some (.slice o p q)/\FCall P F5 #[.agg #[.bool n,.slice o p q]] c (fun A f=>∃ (r:Bool),A= .bool r/\Heap.le c f/\Br (!r) (K (.tuple #[I b,.bool true]) f)
 (g [I (B7 (b+1))] f/\j [I (B7 (b+1))] f<j [I b] a))))
 (K (.tuple #[I 0,.bool false]) a)
theorem A5p a(hvc:A7n prog a h K):FCall prog Jj #[.pointer a] h K:=
 D5 bod func165 [.tmp 2,.tmp 3] ⟨[(2,⟨[4],[],[.int .i64 0],⟨([2,3,4]++Lrg 10 23),[]⟩⟩)],[],[(4,([0,1,2,3,4,6,7,8,9,5,10,11,12,13],[]))],[],[]⟩ 33 [] [138,144] [] (by kernel_rfl) hvc
def A7m(P:Program)(b:OA)(h:Heap)(K:VP):Prop:=
 ∃ b5,b=some b5/\∃ b6,h.cell? (b5.add 1)=some (I b6)/\∃ (p:LP) (z:LN),p [I b6] h/\
 ∀ d e,p [I d] e->∃ b7,b=some b7/\∃ b8,e.cell? (b7.add 0)=some (I b8)/\Br (decide (d<b8)) (∃ b9,b=some b9/\∃ (A:OA),e.cell? (b9.add 2)=some (.pointer A)/\FCall P W9 #[.pointer A,I d] e (fun d9 t=>∃ (B:OA) (C d6:Nat),d9= .slice B C d6/\∃ v,B=some v/\0<=d/\d<(C:Int)/\∃ (D:Bool) (E:OA) (F G:Nat),t.cell? (C6d (v.add (d.toNat*2)) 0)=some (.bool D)/\t.cell? (C6d (v.add (d.toNat*2)) 1)=some (.slice E F G)/\FCall P F5 #[.agg #[.bool D,.slice E F G]] t (fun e0 n=>∃ (H:Bool),e0= .bool H/\Br (!H) (∃ c0,b=some c0/\∃ c1,n.cell? (c0.add 1)=some (I c1)/\FCall P Gb #[.pointer b,I c1,I d] n (fun e1 e2=>e1= .tuple #[]/\K (.bool true) e2))
 (p [I (B7 (d+1))] n/\z [I (B7 (d+1))] n<z [I d] e))))
 (∃ c2,b=some c2/\∃ c3,e.cell? (c2.add 1)=some (I c3)/\∃ (q:LP) (J:LN),q [I c3] e/\
 ∀ a k,q [I a] k->∃ c4,b=some c4/\∃ c5,k.cell? (c4.add 0)=some (I c5)/\Br (decide (a<c5)) (∃ (r:LP) (L:LN),r [I (B7 (a+1))] k/\
 ∀ c f,r [I c] f->∃ c6,b=some c6/\∃ c7,f.cell? (c6.add 0)=some (I c7)/\Br (decide (c<c7)) (∃ c8,b=some c8/\∃ (M:OA),f.cell? (c8.add 2)=some (.pointer M)/\FCall P W9 #[.pointer M,I a] f (fun e3 u=>∃ (N:OA) (O d7:Nat),e3= .slice N O d7/\∃ w,N=some w/\0<=c/\c<(O:Int)/\∃ (Q:Bool) (R:OA) (S T:Nat),u.cell? (C6d (w.add (c.toNat*2)) 0)=some (.bool Q)/\u.cell? (C6d (w.add (c.toNat*2)) 1)=some (.slice R S T)/\FCall P F5 #[.agg #[.bool Q,.slice R S T]] u (fun e4 o=>∃ (V:Bool),e4= .bool V/\Br V (r [I (B7 (c+1))] o/\L [I (B7 (c+1))] o<L [I c] f)
 (∃ c9,b=some c9/\∃ (W:OA),o.cell? (c9.add 2)=some (.pointer W)/\FCall P 182 #[.pointer W,I a,I c] o (fun e5 b2=>e5= .tuple #[]/\∃ d0,b=some d0/\∃ d1,b2.cell? (d0.add 0)=some (I d1)/\∃ (s:LP) (X:LN),s [I 0] b2/\
 ∀ i j,s [I i] j->Br (decide (i<d1)) (∃ d2,b=some d2/\∃ (Z:OA),j.cell? (d2.add 2)=some (.pointer Z)/\FCall P W9 #[.pointer Z,I i] j (fun e6 g=>∃ (l:OA) (m d8:Nat),e6= .slice l m d8/\∃ x,l=some x/\0<=a/\a<(m:Int)/\∃ (a0:Bool) (a1:OA) (a2 a3:Nat),g.cell? (C6d (x.add (a.toNat*2)) 0)=some (.bool a0)/\g.cell? (C6d (x.add (a.toNat*2)) 1)=some (.slice a1 a2 a3)/\∃ y,l=some y/\0<=c/\c<(m:Int)/\∃ (a4:Bool) (a5:OA) (a6 a7:Nat),g.cell? (C6d (y.add (c.toNat*2)) 0)=some (.bool a4)/\g.cell? (C6d (y.add (c.toNat*2)) 1)=some (.slice a5 a6 a7)/\FCall P Qe #[.agg #[.bool a0,.slice a1 a2 a3],.agg #[.bool a4,.slice a5 a6 a7]] g (fun e7 b3=>∃ (a8:Bool) (a9:OA) (b0 b1:Nat),e7= .agg #[.bool a8,.slice a9 b0 b1]/\Heap.le g b3/\∃ d3,l=some d3/\0<=a/\a<(m:Int)/\wpH P (C6e 102 (.pointer (some (d3.add (a.toNat*2)))) (.agg #[.bool a8,.slice a9 b0 b1])) (fun _ b4=>s [I (B7 (i+1))] b4/\X [I (B7 (i+1))] b4<X [I i] j) b3)))
 (∃ d4,b=some d4/\∃ d5,j.cell? (d4.add 1)=some (I d5)/\FCall P Gb #[.pointer b,I d5,I a] j (fun e8 e9=>e8= .tuple #[]/\K (.bool true) e9)))))))
 (q [I (B7 (a+1))] f/\J [I (B7 (a+1))] f<J [I a] k))
 (K (.bool false) k))
theorem A5o a(hvc:A7m prog a h K):FCall prog Pd #[.pointer a] h K:=
 D5 bod func119 [.tmp 2] { loops:=[(2,⟨[3],[],[.int .i64 0],⟨([2,3]++Lrg 12 26),[]⟩⟩),(8,⟨[4],[],[.int .i64 0],⟨([2,4,5,6,7]++Lrg 42 68),[]⟩⟩),(11,⟨[5],[],[.int .i64 0],⟨([2,5,6,7]++Lrg 52 58),[]⟩⟩),(16,⟨[81],[],[.int .i64 0],⟨([6,7]++Lrg 81 22),[]⟩⟩)] } 110 [] [138,144,181,182,183] [181,182] (by kernel_rfl) hvc
def A3o(P:Program)(i:OA)(a:Int)(b:Int)(h:Heap)(K:VP):Prop:=
 Br (a==b) (K (.tuple #[]) h)
 (∃ z,i=some z/\∃ (m:OA),h.cell? (z.add 2)=some (.pointer m)/\FCall P A06 #[.pointer m,I a,I b] h (fun G x=>G= .tuple #[]/\∃ A,i=some A/\∃ B,x.cell? (A.add 0)=some (I B)/\∃ (j:LP) (n:LN),j [I 0] x/\
 ∀ c g,j [I c] g->Br (decide (c<B)) (∃ C,i=some C/\∃ (o:OA),g.cell? (C.add 2)=some (.pointer o)/\FCall P W9 #[.pointer o,I c] g (fun H f=>∃ (d:OA) (e F:Nat),H= .slice d e F/\∃ k,d=some k/\0<=b/\b<(e:Int)/\∃ (p:Bool) (q:OA) (r s:Nat),f.cell? (C6d (k.add (b.toNat*2)) 0)=some (.bool p)/\f.cell? (C6d (k.add (b.toNat*2)) 1)=some (.slice q r s)/\∃ l,d=some l/\0<=a/\a<(e:Int)/\∃ (t:Bool) (u:OA) (v w:Nat),f.cell? (C6d (l.add (a.toNat*2)) 0)=some (.bool t)/\f.cell? (C6d (l.add (a.toNat*2)) 1)=some (.slice u v w)/\∃ D,d=some D/\0<=a/\a<(e:Int)/\wpH P (C6e 102 (.pointer (some (D.add (a.toNat*2)))) (.agg #[.bool p,.slice q r s])) (fun _ J=>∃ E,d=some E/\0<=b/\b<(e:Int)/\wpH P (C6e 102 (.pointer (some (E.add (b.toNat*2)))) (.agg #[.bool t,.slice u v w])) (fun _ y=>j [I (B7 (c+1))] y/\n [I (B7 (c+1))] y<n [I c] g) J) f))
 (K (.tuple #[]) g)))
theorem A3n a b c(hvc:A3o prog a b c h K):FCall prog Gb #[.pointer a,I b,I c] h K:=
 D5 bod func181 [] { loops:=[(3,⟨[22],[],[.int .i64 0],⟨([6,7]++Lrg 22 24),[]⟩⟩)] } 46 [] [142,144] [142] (by kernel_rfl) hvc
def B8l(P:Program) (h:Heap)(K:VP):Prop:=
 wpH P (C6f 23 4 #[(0,.string ({ data:=#[52] }:ByteArray)),(1,.string ({ data:=#[50] }:ByteArray)),(2,.string ({ data:=#[50] }:ByteArray)),(3,.string ({ data:=#[49] }:ByteArray))]) (fun O Q=>∃ (c:OA) (d e:Nat),O= .slice c d e/\FCall P Nh #[.agg #[I 2,I 2,.slice c d e]] Q (fun R S=>∃ (C:Int) (D:Int) (f:OA) (g i:Nat) (j:OA) (k l:Nat) (m:Bool) (n:Int),R= .tuple #[.agg #[I C,I D,.slice f g i,.slice j k l],.bool m,I n]/\wpH P (C6f 23 4 #[(0,.string ({ data:=#[48] }:ByteArray)),(1,.string ({ data:=#[49] }:ByteArray)),(2,.string ({ data:=#[49] }:ByteArray)),(3,.string ({ data:=#[48] }:ByteArray))]) (fun T V=>∃ (o:OA) (p q:Nat),T= .slice o p q/\FCall P Nh #[.agg #[I 2,I 2,.slice o p q]] V (fun W a=>∃ (E:Int) (F:Int) (G:OA) (H J:Nat) (L:OA) (M N:Nat) (r:Bool) (s:Int),W= .tuple #[.agg #[I E,I F,.slice G H J,.slice L M N],.bool r,I s]/\Br m (Br (n==(0:Int)) (wpH P (C6f 23 2 #[(0,.string ({ data:=#[52] }:ByteArray)),(1,.string ({ data:=#[48] }:ByteArray))]) (fun X Z=>∃ (t:OA) (u v:Nat),X= .slice t u v/\FCall P Jh #[.slice j k l,.slice t u v] Z (fun a0 B=>∃ (w:Bool),a0= .bool w/\Br w (wpH P (C6f 23 4 #[(0,.string ({ data:=#[49] }:ByteArray)),(1,.string ({ data:=#[48] }:ByteArray)),(2,.string ({ data:=#[49,47,50] }:ByteArray)),(3,.string ({ data:=#[49] }:ByteArray))]) (fun a1 a2=>∃ (x:OA) (y z:Nat),a1= .slice x y z/\FCall P Jh #[.slice f g i,.slice x y z] a2 (fun a3 b=>∃ (A:Bool),a3= .bool A/\Br A (Br (!r) (K (.bool (s==(0:Int))) b)
 (K (.bool false) b))
 (K (.bool false) b))) B)
 (K (.bool false) B))) a)
 (K (.bool false) a))
 (K (.bool false) a))) S)) h
theorem B3r (hvc:B8l prog  h K):FCall prog Fx #[] h K:=
 D5 bod func33 [.tmp 0] an0 47 [1,4] [49,60] [] (by kernel_rfl) hvc
def Yd(P:Program)(f9:OA)(G i7:Nat)(g0:Int)(g1:OA)(H i8:Nat)(h:Heap)(K:VP):Prop:=
 FCall P A2k #[I g0,I 4] h (fun g4 g5=>∃ b,g4=I b/\∃ (q:LP) (r:LN),q [.slice none 0 0,I 0] g5/\
 ∀ i l f e g,q [.slice i l f,I e] g->Br (decide (e<(B7 ((B7 (b+1))*(B7 (b+1)))))) (Br (decide (e<(G:Int))) (∃ f4,f9=some f4/\0<=e/\e<(G:Int)/\∃ (J:ByteArray),g.cell? (f4.add (e.toNat*1))=some (.string J)/\FCall P A6t #[.string J] g (fun g6 g7=>∃ (L:Bool) (M:OA) (N O:Nat) (Q:Bool) (R:OA) (S T:Nat),g6= .agg #[.bool L,.slice M N O,.bool Q,.slice R S T]/\wpH P (C6f 58 1 #[(0,.agg #[.bool L,.slice M N O,.bool Q,.slice R S T])]) (fun g8 g9=>∃ (V:OA) (W X:Nat),g8= .slice V W X/\wpH P (C6g #[58,58] 58 #[.slice i l f,.slice V W X]) (fun h0 e9=>∃ (t:OA) (u v:Nat),h0= .slice t u v/\q [.slice t u v,I (B7 (e+1))] e9/\r [.slice t u v,I (B7 (e+1))] e9<r [.slice i l f,I e] g) g9) g7))
 (wpH P (C6f 58 1 #[(0,.agg #[.bool false,.slice none 0 0,.bool false,.slice none 0 0])]) (fun h1 h2=>∃ (Z:OA) (a0 a1:Nat),h1= .slice Z a0 a1/\wpH P (C6g #[58,58] 58 #[.slice i l f,.slice Z a0 a1]) (fun h3 f0=>∃ (w:OA) (x y:Nat),h3= .slice w x y/\q [.slice w x y,I (B7 (e+1))] f0/\r [.slice w x y,I (B7 (e+1))] f0<r [.slice i l f,I e] g) h2) g))
 (∃ (z:LP) (a2:LN),z [.slice none 0 0,I 0] g/\
 ∀ m n o c s,z [.slice m n o,I c] s->Br (decide (c<(B7 (b+1)))) ((0<=B7 ((B7 (c+1))*(B7 (b+1)))/\B7 ((B7 (c+1))*(B7 (b+1)))<=(f:Int))/\(0<=B7 (c*(B7 (b+1)))/\B7 (c*(B7 (b+1)))<=(((B7 ((B7 (c+1))*(B7 (b+1)))).toNat:Nat):Int))/\wpH P (C6f 52 1 #[(0,.slice (K7 i f ((B7 (c*(B7 (b+1)))).toNat) 4) (((B7 ((B7 (c+1))*(B7 (b+1)))).toNat)-((B7 (c*(B7 (b+1)))).toNat)) (f-((B7 (c*(B7 (b+1)))).toNat)))]) (fun h4 h5=>∃ (a3:OA) (a4 a5:Nat),h4= .slice a3 a4 a5/\wpH P (C6g #[52,52] 52 #[.slice m n o,.slice a3 a4 a5]) (fun h6 f1=>∃ (A:OA) (B C:Nat),h6= .slice A B C/\z [.slice A B C,I (B7 (c+1))] f1/\a2 [.slice A B C,I (B7 (c+1))] f1<a2 [.slice m n o,I c] s) h5) s)
 (FCall P A50 #[.slice m n o] s (fun h7 h8=>∃ (a6:OA) (a7 a8:Nat),h7= .slice a6 a7 a8/\FCall P A03 #[.slice a6 a7 a8,.slice m n o] h8 (fun h9 i0=>∃ (j:OA) (k D:Nat),h9= .slice j k D/\∃ (E:LP) (a9:LN),E [I 0] i0/\
 ∀ a d,E [I a] d->Br (decide (a<(B7 (b+1)))) (Br (decide (a<(H:Int))) (∃ f5,j=some f5/\0<=a/\a<(k:Int)/\∃ (b0:OA) (b1 g2:Nat),d.cell? (f5.add (a.toNat*1))=some (.slice b0 b1 g2)/\∃ f6,j=some f6/\0<=a/\a<(k:Int)/\∃ (b2:OA) (b3 g3:Nat),d.cell? (f6.add (a.toNat*1))=some (.slice b2 b3 g3)/\∃ p,b2=some p/\0<=a/\a<(b3:Int)/\∃ (b4:Bool) (b5:OA) (b6 b7:Nat) (b8:Bool) (b9:OA) (c0 c1:Nat),d.cell? (C6d (p.add (a.toNat*4)) 0)=some (.bool b4)/\d.cell? (C6d (p.add (a.toNat*4)) 1)=some (.slice b5 b6 b7)/\d.cell? (C6d (p.add (a.toNat*4)) 2)=some (.bool b8)/\d.cell? (C6d (p.add (a.toNat*4)) 3)=some (.slice b9 c0 c1)/\∃ f7,g1=some f7/\0<=a/\a<(H:Int)/\∃ (c2:ByteArray),d.cell? (f7.add (a.toNat*1))=some (.string c2)/\FCall P A6t #[.string c2] d (fun i1 F=>∃ (c3:Bool) (c4:OA) (c5 c6:Nat) (c7:Bool) (c8:OA) (c9 d0:Nat),i1= .agg #[.bool c3,.slice c4 c5 c6,.bool c7,.slice c8 c9 d0]/\Heap.le d F/\FCall P A4x #[.agg #[.bool b4,.slice b5 b6 b7,.bool b8,.slice b9 c0 c1],.agg #[.bool c3,.slice c4 c5 c6,.bool c7,.slice c8 c9 d0]] F (fun i2 f2=>∃ (d1:Bool) (d2:OA) (d3 d4:Nat) (d5:Bool) (d6:OA) (d7 d8:Nat),i2= .agg #[.bool d1,.slice d2 d3 d4,.bool d5,.slice d6 d7 d8]/\Heap.le F f2/\∃ f8,b0=some f8/\0<=a/\a<(b1:Int)/\wpH P (C6e 66 (.pointer (some (f8.add (a.toNat*4)))) (.agg #[.bool d1,.slice d2 d3 d4,.bool d5,.slice d6 d7 d8])) (fun _ f3=>E [I (B7 (a+1))] f3/\a9 [I (B7 (a+1))] f3<a9 [I a] d) f2)))
 (FCall P Tv #[.slice j k D] d (fun i3 i4=>∃ (d9:Int) (e0:Int) (e1:OA) (e2 e3:Nat),i3= .agg #[I d9,I e0,.slice e1 e2 e3]/\K (.agg #[I d9,I e0,.slice e1 e2 e3]) i4)))
 (FCall P Tv #[.slice j k D] d (fun i5 i6=>∃ (e4:Int) (e5:Int) (e6:OA) (e7 e8:Nat),i5= .agg #[I e4,I e5,.slice e6 e7 e8]/\K (.agg #[I e4,I e5,.slice e6 e7 e8]) i6)))))))
theorem A0v a b c d e f g(hvc:Yd prog a b c d e f g h K):FCall prog Hy #[.slice a b c,I d,.slice e f g] h K:=
 D5 bod func34 [.cell 6 25] { loops:=[(4,⟨[7,8],[],[.slice none 0 0,.int .i64 0],⟨([7,8,9]++Lrg 17 21),[9]⟩⟩),(12,⟨[10,11],[],[.slice none 0 0,.int .i64 0],⟨([10,11]++Lrg 38 17),[]⟩⟩),(17,⟨[13],[],[.int .i64 0],⟨([13]++Lrg 59 30),[]⟩⟩)] } 91 [6,9] [29,64,91,92,93,94] [] (by kernel_rfl) hvc
def B8t(P:Program)(f:OA)(a g:Nat)(i:OA)(b j:Nat)(h:Heap)(K:VP):Prop:=
 Br (decide ((a:Int)<=(20:Int))) (Br (decide ((b:Int)<=(8:Int))) (FCall P Rt #[I 8,.slice f a g] h (fun k e=>∃ (c:Bool),k= .bool c/\Br c (FCall P Rt #[I 8,.slice i b j] e (fun l m=>∃ (d:Bool),l= .bool d/\K (.bool d) m))
 (K (.bool false) e)))
 (K (.bool false) h))
 (K (.bool false) h)
theorem B48 a b c d e f(hvc:B8t prog a b c d e f h K):FCall prog A01 #[.slice a b c,.slice d e f] h K:=
 D5 bod func32 [.tmp 4] an0 21 [] [14] [] (by kernel_rfl) hvc
def A3m(P:Program)(E:OA)(F G:Nat)(c1:Int)(H:OA)(J L:Nat)(c2:Int)(h:Heap)(K:VP):Prop:=
 FCall P A01 #[.slice E F G,.slice H J L] h (fun c3 b7=>∃ (M:Bool),c3= .bool M/\Br (!M) (FCall P Fx #[] b7 (fun c4 c5=>∃ (N:Bool),c4= .bool N/\K (.bool N) c5))
 (FCall P Hy #[.slice E F G,I c1,.slice H J L] b7 (fun c6 b8=>∃ (b:Int) (m:Int) (n:OA) (o p:Nat),c6= .agg #[I b,I m,.slice n o p]/\Br (decide (b<(2:Int))) (FCall P Fx #[] b8 (fun c7 c8=>∃ (O:Bool),c7= .bool O/\K (.bool O) c8))
 (FCall P A2k #[I c2,I (B7 (b-1))] b8 (fun c9 d0=>∃ c,c9=I c/\FCall P A04 #[.agg #[I b,I m,.slice n o p],I (B7 (c+1))] d0 (fun d1 C=>∃ (Q:Int) (R:Int) (S:OA) (T V:Nat) (w:Int),d1= .tuple #[.agg #[I Q,I R,.slice S T V],I w]/\Br (w != (0:Int)) (Br (w==(7:Int)) (FCall P Fx #[] C (fun d2 d3=>∃ (W:Bool),d2= .bool W/\K (.bool W) d3))
 (K (.bool false) C))
 (∃ (x:LP) (X:LN),x [I 0,I (B7 (c+1)),I (B7 (c+1)),.slice none 0 0] C/\
 ∀ d q r s t u v,x [I d,I q,I r,.slice s t u] v->Br (decide (d<(B7 (c+1)))) (∃ (y:LP) (Z:LN),y [I 0,I q,I r,.slice s t u] v/\
 ∀ e f g j k l i,y [I e,I f,I g,.slice j k l] i->Br (decide (e<(B7 (c+1)))) (FCall P C01 #[.agg #[I b,I m,.slice n o p],I d,I e] i (fun d4 D=>∃ (a0:ByteArray),d4= .string a0/\Heap.le i D/\wpH P (C6f 23 1 #[(0,.string a0)]) (fun d5 b9=>∃ (a1:OA) (a2 a3:Nat),d5= .slice a1 a2 a3/\Heap.le D b9/\wpH P (C6g #[23,23] 23 #[.slice j k l,.slice a1 a2 a3]) (fun d6 c0=>∃ (z:OA) (A B:Nat),d6= .slice z A B/\y [I (B7 (e+1)),I f,I g,.slice z A B] c0/\Z [I (B7 (e+1)),I f,I g,.slice z A B] c0<Z [I e,I f,I g,.slice j k l] i) b9) D))
 (x [I (B7 (d+1)),I f,I g,.slice j k l] i/\X [I (B7 (d+1)),I f,I g,.slice j k l] i<X [I d,I q,I r,.slice s t u] v))
 (FCall P En #[.agg #[I b,I m,.slice n o p]] v (fun d7 d8=>∃ (a4:Int) (a5:Int) (a6:Int) (a7:Int),d7= .tuple #[I a4,I a5,I a6,I a7]/\FCall P En #[.agg #[I q,I r,.slice s t u]] d8 (fun d9 e0=>∃ (a8:Int) (a9:Int) (b0:Int) (b1:Int),d9= .tuple #[I a8,I a9,I b0,I b1]/\FCall P En #[.agg #[I Q,I R,.slice S T V]] e0 (fun e1 a=>∃ (b2:Int) (b3:Int) (b4:Int) (b5:Int),e1= .tuple #[I b2,I b3,I b4,I b5]/\Br (a7==(0:Int)) (Br (b1==(0:Int)) (Br (b5==(0:Int)) (Br (a4==(B7 (a8+b2))) (Br (a5==(B7 (a9+b3))) (Br (a6==(B7 (b0+b4))) (FCall P Fx #[] a (fun e2 e3=>∃ (b6:Bool),e2= .bool b6/\K (.bool b6) e3))
 (K (.bool false) a))
 (K (.bool false) a))
 (K (.bool false) a))
 (K (.bool false) a))
 (K (.bool false) a))
 (K (.bool false) a))))))))))))
theorem A3l a b c d e f g i(hvc:A3m prog a b c d e f g i h K):FCall prog Tu #[.slice a b c,I d,.slice e f g,I i] h K:=
 D5 bod func12 [.tmp 8] { loops:=[(12,⟨[13],[(12,3)],[.int .i64 0,.int .i64 0,.int .i64 0,.slice none 0 0],⟨([13,14]++Lrg 62 19),[12]⟩⟩),(15,⟨[14],[(12,3)],[.int .i64 0,.int .i64 0,.int .i64 0,.slice none 0 0],⟨([14]++Lrg 67 14),[12]⟩⟩)] } 136 [9,10,12] [22,29,32,33,34,48,52] [1000000000] (by kernel_rfl) hvc
end Go.Proofs.YtajkakhfcokljaaGreatDoor
