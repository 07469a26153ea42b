/-
  Texts of this proof, merged by a program of ours.
-/
import Derived.Test.YtajkakhfcokljaaGreatDoorProg
import Derived.Test.YtajkakhfcokljaaGreatDoorG05
import Derived.Test.YtajkakhfcokljaaGreatDoorG06
import Derived.Test.YtajkakhfcokljaaGreatDoorG13
import Derived.Test.YtajkakhfcokljaaGreatDoorG07
import Derived.Test.YtajkakhfcokljaaGreatDoorG10
import Derived.Test.YtajkakhfcokljaaGreatDoorG27
import Derived.Test.YtajkakhfcokljaaGreatDoorG09
import Derived.Test.YtajkakhfcokljaaGreatDoorG29
open Go.Proofs.Tryz
open _root_.Go.Addr renaming add->C2w
open _root_.Go.Builtin renaming append_->C2z
open _root_.Go.Instr renaming storeAt->C2x,buildSlice->C2y,makeSlice->C30
namespace Go.Proofs.YtajkakhfcokljaaGreatDoor
set_option linter.all false
open Go
set_option maxRecDepth 100000
variable {h:Heap} {K:VP}
abbrev B4i:Nat:=55
abbrev Xd:Nat:=95
abbrev Ks:Nat:=49
abbrev B8v:Nat:=42
abbrev C0n:Nat:=44
abbrev Nd:Nat:=36
abbrev C0l:Nat:=56
abbrev C0m:Nat:=52
abbrev C1b:Nat:=126
abbrev Dd:Nat:=118
abbrev Cb:Nat:=96
abbrev B7r:Nat:=48
abbrev A06:Nat:=120
abbrev Nc:Nat:=122
abbrev Dc:Nat:=165
abbrev Nb:Nat:=98
abbrev B7q:Nat:=119
abbrev B6f:Nat:=181
abbrev B8r:Nat:=41
abbrev Gk:Nat:=99
abbrev Ep:Nat:=37
abbrev B8s:Nat:=50
abbrev B8t:Nat:=43
abbrev C0j:Nat:=45
abbrev C0g:Nat:=124
abbrev C0i:Nat:=185
abbrev B7o:Nat:=51
abbrev A2n:Nat:=40
abbrev C0f:Nat:=57
abbrev C0h:Nat:=53
abbrev Hp:Nat:=33
abbrev Gj:Nat:=34
abbrev Xa:Nat:=32
abbrev C19:Nat:=54
abbrev B8q:Nat:=10
abbrev B4g:Nat:=9
abbrev B4h:Nat:=7
abbrev Kq:Nat:=5
abbrev A6v:Nat:=6
abbrev A91:Nat:=11
abbrev Xb:Nat:=8
abbrev B6c:Nat:=12
abbrev C0c:Nat:=111
abbrev C0r:Nat:=72
abbrev Jj:Nat:=173
abbrev B7w:Nat:=145
def B9z(P:Program)(f:Int)(d:Int)(g:OA)(i w:Nat)(h:Heap)(K:VP):Prop:=
 FCall P A2m #[.agg #[I f,I d,.slice g i w]] h (fun x l=>∃ (m:OA) (n o:Nat) (p:Bool),x= .tuple #[.slice m n o,.bool p]/\Br (!p) (K (.tuple #[.slice none 0 0,I 1]) l)
 (Br (f != d) (K (.tuple #[.slice none 0 0,I 4]) l)
 (∃ (j:LP) (q:LN),j [I 0] l/\
 ∀ a e,j [I a] e->Br (decide (a<f)) (∃ (k:LP) (r:LN),k [I 0] e/\
 ∀ b c,k [I b] c->Br (decide (b<a)) (∃ u,g=some u/\0<=B4 ((B4 (a*d))+b)/\B4 ((B4 (a*d))+b)<(i:Int)/\∃ (s:ByteArray),c.cell? (u.add ((B4 ((B4 (a*d))+b)).toNat*1))=some (.string s)/\∃ v,g=some v/\0<=B4 ((B4 (b*d))+a)/\B4 ((B4 (b*d))+a)<(i:Int)/\∃ (t:ByteArray),c.cell? (v.add ((B4 ((B4 (b*d))+a)).toNat*1))=some (.string t)/\Br (!(ByteArray.toList s==ByteArray.toList t)) (K (.tuple #[.slice none 0 0,I 4]) c)
 (k [I (B4 (b+1))] c/\r [I (B4 (b+1))] c<r [I b] c))
 (j [I (B4 (a+1))] c/\q [I (B4 (a+1))] c<q [I a] e))
 (K (.tuple #[.slice m n o,I 0]) e))))
theorem B3v a b c d e(hvc:B9z prog a b c d e h K):FCall prog Xd #[.agg #[I a,I b,.slice c d e]] h K:=
 C7 bod func95 [.tmp 2,.tmp 3] { loops:=[(7,⟨[22],[],[.int .i64 0],⟨([2,3,6,7]++Lrg 22 30),[]⟩⟩),(10,⟨[26],[],[.int .i64 0],⟨([2,3,7]++Lrg 26 25),[]⟩⟩)] } 53 [1] [67] [] (by kernel_rfl) hvc
def B15(P:Program)(c:Int)(f:Int)(B:OA)(C D:Nat)(h:Heap)(K:VP):Prop:=
 FCall P Xd #[.agg #[I c,I f,.slice B C D]] h (fun E x=>∃ (g:OA) (i j:Nat) (d:Int),E= .tuple #[.slice g i j,I d]/\Br (d != (0:Int)) (K (.tuple #[.agg #[I 0,I 0,.slice none 0 0,.slice none 0 0],.bool false,I d]) x)
 (FCall P Cb #[.slice g i j,I c] x (fun F a=>∃ (e:OA) (k:Bool),F= .tuple #[.pointer e,.bool k]/\Br (!k) (K (.tuple #[.agg #[I 0,I 0,.slice none 0 0,.slice none 0 0],.bool false,I 0]) a)
 (∃ z,e=some z/\∃ (l:OA) (m n:Nat),a.cell? (z.add 5)=some (.slice l m n)/\FCall P Db #[.slice l m n] a (fun G b=>∃ (o:OA) (p q:Nat),G= .slice o p q/\Heap.le a b/\∃ A,e=some A/\∃ (r:OA) (s t:Nat),b.cell? (A.add 6)=some (.slice r s t)/\FCall P Db #[.slice r s t] b (fun H y=>∃ (u:OA) (v w:Nat),H= .slice u v w/\Heap.le b y/\K (.tuple #[.agg #[I c,I f,.slice o p q,.slice u v w],.bool true,I 0]) y))))))
theorem A6q a b c d e(hvc:B15 prog a b c d e h K):FCall prog Ks #[.agg #[I a,I b,.slice c d e]] h K:=
 C7 bod func49 [.cell 2 72,.tmp 3,.tmp 4] { orders:=[(7,((Lrg 0 8++[10,8,9,11]),[]))] } 46 [1,2,9] [95,96,97] [] (by kernel_rfl) hvc
def A52(P:Program)(b:Int)(q:Int)(r:OA)(s t:Nat)(h:Heap)(K:VP):Prop:=
 FCall P Xd #[.agg #[I b,I q,.slice r s t]] h (fun u o=>∃ (c:OA) (d e:Nat) (a:Int),u= .tuple #[.slice c d e,I a]/\Br (a != (0:Int)) (K (.tuple #[.slice none 0 0,.bool false,I a]) o)
 (FCall P Cb #[.slice c d e,I b] o (fun v p=>∃ (f:OA) (g:Bool),v= .tuple #[.pointer f,.bool g]/\Br g (K (.tuple #[.slice none 0 0,.bool false,I 0]) p)
 (FCall P Nb #[.pointer f] p (fun w x=>∃ (i:OA) (j k:Nat),w= .slice i j k/\FCall P Db #[.slice i j k] x (fun y z=>∃ (l:OA) (m n:Nat),y= .slice l m n/\K (.tuple #[.slice l m n,.bool true,I 0]) z))))))
theorem A3g a b c d e(hvc:A52 prog a b c d e h K):FCall prog Nd #[.agg #[I a,I b,.slice c d e]] h K:=
 C7 bod func36 [.tmp 2,.tmp 3,.tmp 4] an0 28 [1] [95,96,97,98] [] (by kernel_rfl) hvc
def Hg(P:Program)(i:OA)(j k:Nat)(a:Int)(h:Heap)(K:VP):Prop:=
 FCall P Iw #[.slice i j k,I a] h (fun l m=>∃ (b:OA),l= .pointer b/\FCall P Qz #[I 1] m (fun n o=>∃ (c:Bool) (d:OA) (e f:Nat),n= .agg #[.bool c,.slice d e f]/\wpH P (Instr.box 173 (.agg #[I a,I 0,.pointer b,.bool c,.slice d e f,.slice none 0 0,.slice none 0 0])) (fun p q=>∃ (g:Addr),p= .pointer (some g)/\K (.pointer (some g)) q) o))
theorem Lo a b c d(hvc:Hg prog a b c d h K):FCall prog Dd #[.slice a b c,I d] h K:=
 C7 bod func118 [.tmp 4] an0 12 [] [68,139] [1000000000] (by kernel_rfl) hvc
def Vf(P:Program)(d7:OA)(d8 d9:Nat)(b:Int)(h:Heap)(K:VP):Prop:=
 FCall P Dd #[.slice d7 d8 d9,I b] h (fun e4 e5=>∃ (c:OA),e4= .pointer c/\wpH P (C30 95 (I (B4 (b*b))) (I (B4 (b*b)))) (fun e6 e7=>∃ (z:OA) (A B:Nat),e6= .slice z A B/\∃ c5,c=some c5/\wpH P (C2x 95 (.pointer (some (c5.add 5))) (.slice z A B)) (fun _ e8=>wpH P (C30 95 (I b) (I b)) (fun e9 f0=>∃ (C:OA) (D E:Nat),e9= .slice C D E/\∃ c6,c=some c6/\wpH P (C2x 95 (.pointer (some (c6.add 6))) (.slice C D E)) (fun _ f1=>∃ (r:LP) (s:LN),r [.bool true,I 0] f1/\
 ∀ n a p,r [.bool n,I a] p->Br (decide (a<b)) (FCall P A06 #[.pointer c,I a,I a] p (fun f2 f3=>∃ (e:Bool) (f:OA) (g i:Nat) (j:Bool) (k:OA) (l m:Nat),f2= .agg #[.bool e,.slice f g i,.bool j,.slice k l m]/\FCall P Dc #[.pointer c] f3 (fun f4 f5=>∃ (e0:Int) (F:Bool),f4= .tuple #[I e0,.bool F]/\∃ (u:LP),(FCall P A2j #[.agg #[.bool e,.slice f g i,.bool j,.slice k l m]] f5 (fun f6 b8=>∃ c7,f6=I c7/\Br (decide (c7<(0:Int))) (K (.tuple #[.pointer c,.bool false]) b8)
 (FCall P Gg #[.agg #[.bool e,.slice f g i,.bool j,.slice k l m]] b8 (fun f7 w=>∃ (G:Bool),f7= .bool G/\Br G (Br F (K (.tuple #[.pointer c,.bool false]) w)
 (u [.bool n] w))
 (u [.bool n] w)))))/\
 ∀ q t,u [.bool q] t->∃ c8,c=some c8/\∃ (H:OA) (J e1:Nat),t.cell? (c8.add 5)=some (.slice H J e1)/\FCall P At #[I 1] t (fun f8 b9=>∃ (L:Bool) (M:OA) (N O:Nat) (Q:Bool) (R:OA) (S T:Nat),f8= .agg #[.bool L,.slice M N O,.bool Q,.slice R S T]/\Heap.le t b9/\∃ c9,H=some c9/\0<=B4 ((B4 (a*b))+a)/\B4 ((B4 (a*b))+a)<(J:Int)/\wpH P (C2x 106 (.pointer (some (c9.add ((B4 ((B4 (a*b))+a)).toNat*4)))) (.agg #[.bool L,.slice M N O,.bool Q,.slice R S T])) (fun _ c0=>∃ d0,c=some d0/\∃ (V:OA) (W e2:Nat),c0.cell? (d0.add 6)=some (.slice V W e2)/\∃ d1,V=some d1/\0<=a/\a<(W:Int)/\wpH P (C2x 106 (.pointer (some (d1.add (a.toNat*4)))) (.agg #[.bool e,.slice f g i,.bool j,.slice k l m])) (fun _ f9=>FCall P Gg #[.agg #[.bool e,.slice f g i,.bool j,.slice k l m]] f9 (fun g0 x=>∃ (X:Bool),g0= .bool X/\Br X (∃ d2,c=some d2/\∃ d3,x.cell? (d2.add 1)=some (I d3)/\∃ d4,c=some d4/\wpH P (C2x 3 (.pointer (some (d4.add 1))) (I (B4 (d3+1)))) (fun _ c1=>r [.bool q,I (B4 (a+1))] c1/\s [.bool q,I (B4 (a+1))] c1<s [.bool n,I a] p) x)
 (∃ (v:LP) (Z:LN),v [I (B4 (a+1))] x/\
 ∀ d o,v [I d] o->Br (decide (d<b)) (∃ d5,c=some d5/\∃ (a0:OA) (a1 e3:Nat),o.cell? (d5.add 5)=some (.slice a0 a1 e3)/\FCall P A06 #[.pointer c,I d,I a] o (fun g1 y=>∃ (a2:Bool) (a3:OA) (a4 a5:Nat) (a6:Bool) (a7:OA) (a8 a9:Nat),g1= .agg #[.bool a2,.slice a3 a4 a5,.bool a6,.slice a7 a8 a9]/\Heap.le o y/\FCall P A04 #[.agg #[.bool a2,.slice a3 a4 a5,.bool a6,.slice a7 a8 a9],.agg #[.bool e,.slice f g i,.bool j,.slice k l m]] y (fun g2 c2=>∃ (b0:Bool) (b1:OA) (b2 b3:Nat) (b4:Bool) (b5:OA) (b6 b7:Nat),g2= .agg #[.bool b0,.slice b1 b2 b3,.bool b4,.slice b5 b6 b7]/\Heap.le y c2/\∃ d6,a0=some d6/\0<=B4 ((B4 (d*b))+a)/\B4 ((B4 (d*b))+a)<(a1:Int)/\wpH P (C2x 106 (.pointer (some (d6.add ((B4 ((B4 (d*b))+a)).toNat*4)))) (.agg #[.bool b0,.slice b1 b2 b3,.bool b4,.slice b5 b6 b7])) (fun _ c3=>v [I (B4 (d+1))] c3/\Z [I (B4 (d+1))] c3<Z [I d] o) c2)))
 (FCall P Nc #[.pointer c] o (fun g3 c4=>g3= .tuple #[]/\r [.bool q,I (B4 (a+1))] c4/\s [.bool q,I (B4 (a+1))] c4<s [.bool n,I a] p))))) c0) b9))))
 (K (.tuple #[.pointer c,.bool n]) p)) f0) e8) e7) e5)
theorem Yg a b c d(hvc:Vf prog a b c d h K):FCall prog Cb #[.slice a b c,I d] h K:=
 C7 bod func96 [.tmp 4,.tmp 5] ⟨[(6,⟨[7,29],[],[.bool false,.int .i64 0],⟨([7,8,9,10,11,12]++Lrg 29 75),[9]⟩⟩),(17,⟨[12],[],[.int .i64 0],⟨([12]++Lrg 80 21),[]⟩⟩)],[(12,⟨[7],[],[.bool false],⟨([7]++Lrg 41 10),[]⟩⟩)],[(19,((Lrg 0 12++[13,12,14,15,16]),[]))],[],[]⟩ 106 [9] [72,106,118,120,121,122,165,166] [122] (by kernel_rfl) hvc
def EAt(P:Program)(e:OA)(a:Int)(d:Int)(h:Heap)(K:VP):Prop:=
 ∃ a1,e=some a1/\∃ (j:OA),h.cell? (a1.add 2)=some (.pointer j)/\∃ g,e=some g/\∃ (k:Bool) (l:OA) (m n:Nat),h.cell? (C2w (g.add 3) 0)=some (.bool k)/\h.cell? (C2w (g.add 3) 1)=some (.slice l m n)/\∃ a2,e=some a2/\∃ (o:OA),h.cell? (a2.add 2)=some (.pointer o)/\∃ a3,o=some a3/\∃ (p:OA) (q a4:Nat),h.cell? (a3.add 2)=some (.slice p q a4)/\∃ c,p=some c/\0<=a/\a<(q:Int)/\∃ (r:Bool) (s:OA) (t u:Nat) (v:Bool) (w:OA) (x y:Nat),h.cell? (C2w (c.add (a.toNat*4)) 0)=some (.bool r)/\h.cell? (C2w (c.add (a.toNat*4)) 1)=some (.slice s t u)/\h.cell? (C2w (c.add (a.toNat*4)) 2)=some (.bool v)/\h.cell? (C2w (c.add (a.toNat*4)) 3)=some (.slice w x y)/\FCall P Rf #[.pointer j,I a] h (fun a6 b=>∃ (z:OA) (A a5:Nat),a6= .slice z A a5/\Heap.le h b/\∃ i,z=some i/\0<=d/\d<(A:Int)/\∃ (B:Bool) (C:OA) (D E:Nat),b.cell? (C2w (i.add (d.toNat*2)) 0)=some (.bool B)/\b.cell? (C2w (i.add (d.toNat*2)) 1)=some (.slice C D E)/\FCall P Bo #[.agg #[.bool B,.slice C D E],.agg #[.bool k,.slice l m n]] b (fun a7 f=>∃ (F:Bool) (G:OA) (H J:Nat) (L:Bool) (M:OA) (N O:Nat),a7= .agg #[.bool F,.slice G H J,.bool L,.slice M N O]/\Heap.le b f/\FCall P A04 #[.agg #[.bool F,.slice G H J,.bool L,.slice M N O],.agg #[.bool r,.slice s t u,.bool v,.slice w x y]] f (fun a8 a0=>∃ (Q:Bool) (R:OA) (S T:Nat) (V:Bool) (W:OA) (X Z:Nat),a8= .agg #[.bool Q,.slice R S T,.bool V,.slice W X Z]/\Heap.le f a0/\K (.agg #[.bool Q,.slice R S T,.bool V,.slice W X Z]) a0)))
theorem B9y a b c(hvc:EAt prog a b c h K):FCall prog A06 #[.pointer a,I b,I c] h K:=
 C7 bod func120 [.cell 6 106] { orders:=[(1,(([0,1,2,3,4,6,9,10,11,12]++Lrg 14 10++[5,7,8,13,24,25]),[]))] } 32 [6] [72,132,144] [] (by kernel_rfl) hvc
def A51(P:Program)(c:OA)(h:Heap)(K:VP):Prop:=
 ∃ y,c=some y/\∃ a,h.cell? (y.add 1)=some (I a)/\∃ (e:LP) (j:LN),e [I (B4 (a+1))] h/\
 ∀ d b,e [I d] b->∃ z,c=some z/\∃ A,b.cell? (z.add 0)=some (I A)/\Br (decide (d<A)) (∃ B,c=some B/\∃ (k:OA),b.cell? (B.add 2)=some (.pointer k)/\∃ g,c=some g/\∃ (l:Bool) (m:OA) (n o:Nat),b.cell? (C2w (g.add 3) 0)=some (.bool l)/\b.cell? (C2w (g.add 3) 1)=some (.slice m n o)/\FCall P Xf #[.pointer k,I d,I a,I a,.agg #[.bool l,.slice m n o]] b (fun J w=>J= .tuple #[]/\e [I (B4 (d+1))] w/\j [I (B4 (d+1))] w<j [I d] b))
 (∃ C,c=some C/\∃ (p:OA),b.cell? (C.add 2)=some (.pointer p)/\FCall P Rf #[.pointer p,I a] b (fun L f=>∃ (q:OA) (r H:Nat),L= .slice q r H/\∃ i,q=some i/\0<=a/\a<(r:Int)/\∃ (s:Bool) (t:OA) (u v:Nat),f.cell? (C2w (i.add (a.toNat*2)) 0)=some (.bool s)/\f.cell? (C2w (i.add (a.toNat*2)) 1)=some (.slice t u v)/\∃ D,c=some D/\wpH P (C2x 102 (.pointer (some (D.add 3))) (.agg #[.bool s,.slice t u v])) (fun _ x=>∃ E,c=some E/\∃ F,x.cell? (E.add 1)=some (I F)/\∃ G,c=some G/\wpH P (C2x 3 (.pointer (some (G.add 1))) (I (B4 (F+1)))) (fun _ M=>K (.tuple #[]) M) x) f))
theorem A3f a(hvc:A51 prog a h K):FCall prog Nc #[.pointer a] h K:=
 C7 bod func122 [] { loops:=[(2,⟨[3],[],[.int .i64 0],⟨([3]++Lrg 10 20),[]⟩⟩)] } 49 [] [143,144] [143] (by kernel_rfl) hvc
def A50(P:Program)(e:OA)(h:Heap)(K:VP):Prop:=
 ∃ s,e=some s/\∃ t,h.cell? (s.add 1)=some (I t)/\∃ (g:LP) (j:LN),g [I (B4 (t+1))] h/\
 ∀ b a,g [I b] a->∃ u,e=some u/\∃ v,a.cell? (u.add 0)=some (I v)/\Br (decide (b<v)) (∃ w,e=some w/\∃ (k:OA),a.cell? (w.add 2)=some (.pointer k)/\∃ x,e=some x/\∃ d,a.cell? (x.add 1)=some (I d)/\FCall P Rf #[.pointer k,I b] a (fun z c=>∃ (l:OA) (m y:Nat),z= .slice l m y/\Heap.le a c/\∃ i,l=some i/\0<=d/\d<(m:Int)/\∃ (n:Bool) (o:OA) (p q:Nat),c.cell? (C2w (i.add (d.toNat*2)) 0)=some (.bool n)/\c.cell? (C2w (i.add (d.toNat*2)) 1)=some (.slice o p q)/\FCall P E9 #[.agg #[.bool n,.slice o p q]] c (fun A f=>∃ (r:Bool),A= .bool r/\Heap.le c f/\Br (!r) (K (.tuple #[I b,.bool true]) f)
 (g [I (B4 (b+1))] f/\j [I (B4 (b+1))] f<j [I b] a))))
 (K (.tuple #[I 0,.bool false]) a)
theorem A3e a(hvc:A50 prog a h K):FCall prog Dc #[.pointer a] h K:=
 C7 bod func165 [.tmp 2,.tmp 3] ⟨[(2,⟨[4],[],[.int .i64 0],⟨([2,3,4]++Lrg 10 23),[]⟩⟩)],[],[(4,([0,1,2,3,4,6,7,8,9,5,10,11,12,13],[]))],[],[]⟩ 33 [] [138,144] [] (by kernel_rfl) hvc
def A4z(P:Program)(i:OA)(h:Heap)(K:VP):Prop:=
 ∃ l6,i=some l6/\∃ e,h.cell? (l6.add 0)=some (I e)/\∃ l7,i=some l7/\∃ d,h.cell? (l7.add 1)=some (I d)/\wpH P (C30 95 (I e) (I e)) (fun m6 m7=>∃ (f:OA) (g w:Nat),m6= .slice f g w/\∃ (n:LP),(FCall P Dc #[.pointer i] m7 (fun m8 l0=>∃ (j:Int) (x:Bool),m8= .tuple #[I j,.bool x]/\Br x (FCall P A06 #[.pointer i,I d,I d] l0 (fun m9 n0=>∃ (y:Bool) (z:OA) (A B:Nat) (C:Bool) (D:OA) (E F:Nat),m9= .agg #[.bool y,.slice z A B,.bool C,.slice D E F]/\FCall P Gg #[.agg #[.bool y,.slice z A B,.bool C,.slice D E F]] n0 (fun n1 l1=>∃ (G:Bool),n1= .bool G/\Br G (FCall P A06 #[.pointer i,I j,I d] l1 (fun n2 n3=>∃ (H:Bool) (J:OA) (L M:Nat) (N:Bool) (O:OA) (Q R:Nat),n2= .agg #[.bool H,.slice J L M,.bool N,.slice O Q R]/\FCall P A06 #[.pointer i,I j,I j] n3 (fun n4 n5=>∃ (S:Bool) (T:OA) (V W:Nat) (X:Bool) (Z:OA) (a0 a1:Nat),n4= .agg #[.bool S,.slice T V W,.bool X,.slice Z a0 a1]/\FCall P At #[I 1] n5 (fun n6 n7=>∃ (a2:Bool) (a3:OA) (a4 a5:Nat) (a6:Bool) (a7:OA) (a8 a9:Nat),n6= .agg #[.bool a2,.slice a3 a4 a5,.bool a6,.slice a7 a8 a9]/\∃ l8,f=some l8/\0<=j/\j<(g:Int)/\wpH P (C2x 106 (.pointer (some (l8.add (j.toNat*4)))) (.agg #[.bool a2,.slice a3 a4 a5,.bool a6,.slice a7 a8 a9])) (fun _ l2=>FCall P At #[I 1] l2 (fun n8 r=>∃ (b0:Bool) (b1:OA) (b2 b3:Nat) (b4:Bool) (b5:OA) (b6 b7:Nat),n8= .agg #[.bool b0,.slice b1 b2 b3,.bool b4,.slice b5 b6 b7]/\Heap.le l2 r/\FCall P A48 #[.agg #[.bool S,.slice T V W,.bool X,.slice Z a0 a1],.agg #[.bool b0,.slice b1 b2 b3,.bool b4,.slice b5 b6 b7]] r (fun n9 s=>∃ (b8:Bool) (b9:OA) (c0 c1:Nat) (c2:Bool) (c3:OA) (c4 c5:Nat),n9= .agg #[.bool b8,.slice b9 c0 c1,.bool c2,.slice c3 c4 c5]/\Heap.le r s/\FCall P At #[I (-2:Int)] s (fun o0 t=>∃ (c6:Bool) (c7:OA) (c8 c9:Nat) (d0:Bool) (d1:OA) (d2 d3:Nat),o0= .agg #[.bool c6,.slice c7 c8 c9,.bool d0,.slice d1 d2 d3]/\Heap.le s t/\FCall P A03 #[.agg #[.bool H,.slice J L M,.bool N,.slice O Q R],.agg #[.bool c6,.slice c7 c8 c9,.bool d0,.slice d1 d2 d3]] t (fun o1 u=>∃ (d4:Bool) (d5:OA) (d6 d7:Nat) (d8:Bool) (d9:OA) (e0 e1:Nat),o1= .agg #[.bool d4,.slice d5 d6 d7,.bool d8,.slice d9 e0 e1]/\Heap.le t u/\FCall P A04 #[.agg #[.bool b8,.slice b9 c0 c1,.bool c2,.slice c3 c4 c5],.agg #[.bool d4,.slice d5 d6 d7,.bool d8,.slice d9 e0 e1]] u (fun o2 l3=>∃ (e2:Bool) (e3:OA) (e4 e5:Nat) (e6:Bool) (e7:OA) (e8 e9:Nat),o2= .agg #[.bool e2,.slice e3 e4 e5,.bool e6,.slice e7 e8 e9]/\Heap.le u l3/\∃ l9,f=some l9/\0<=d/\d<(g:Int)/\wpH P (C2x 106 (.pointer (some (l9.add (d.toNat*4)))) (.agg #[.bool e2,.slice e3 e4 e5,.bool e6,.slice e7 e8 e9])) (fun _ o3=>n [] o3) l3)))))) n7))))
 (FCall P At #[I 1] l1 (fun o4 o5=>∃ (f0:Bool) (f1:OA) (f2 f3:Nat) (f4:Bool) (f5:OA) (f6 f7:Nat),o4= .agg #[.bool f0,.slice f1 f2 f3,.bool f4,.slice f5 f6 f7]/\∃ m0,f=some m0/\0<=d/\d<(g:Int)/\wpH P (C2x 106 (.pointer (some (m0.add (d.toNat*4)))) (.agg #[.bool f0,.slice f1 f2 f3,.bool f4,.slice f5 f6 f7])) (fun _ o6=>n [] o6) o5)))))
 (FCall P At #[I 1] l0 (fun o7 o8=>∃ (f8:Bool) (f9:OA) (g0 g1:Nat) (g2:Bool) (g3:OA) (g4 g5:Nat),o7= .agg #[.bool f8,.slice f9 g0 g1,.bool g2,.slice g3 g4 g5]/\∃ m1,f=some m1/\0<=d/\d<(g:Int)/\wpH P (C2x 106 (.pointer (some (m1.add (d.toNat*4)))) (.agg #[.bool f8,.slice f9 g0 g1,.bool g2,.slice g3 g4 g5])) (fun _ o9=>n [] o9) o8))))/\
 ∀ m2,n [] m2->∃ (p:LP) (g6:LN),p [I (B4 (d-1))] m2/\
 ∀ a o,p [I a] o->Br (decide (a>=(0:Int))) (∃ (q:LP) (g7:LN),q [I (B4 (a+1))] o/\
 ∀ c b,q [I c] b->Br (decide (c<e)) (∃ k,f=some k/\0<=a/\a<(g:Int)/\∃ (g8:Bool) (g9:OA) (h0 h1:Nat) (h2:Bool) (h3:OA) (h4 h5:Nat),b.cell? (C2w (k.add (a.toNat*4)) 0)=some (.bool g8)/\b.cell? (C2w (k.add (a.toNat*4)) 1)=some (.slice g9 h0 h1)/\b.cell? (C2w (k.add (a.toNat*4)) 2)=some (.bool h2)/\b.cell? (C2w (k.add (a.toNat*4)) 3)=some (.slice h3 h4 h5)/\∃ m3,i=some m3/\∃ (h6:OA) (h7 m5:Nat),b.cell? (m3.add 5)=some (.slice h6 h7 m5)/\∃ l,h6=some l/\0<=B4 ((B4 (c*e))+a)/\B4 ((B4 (c*e))+a)<(h7:Int)/\∃ (h8:Bool) (h9:OA) (i0 i1:Nat) (i2:Bool) (i3:OA) (i4 i5:Nat),b.cell? (C2w (l.add ((B4 ((B4 (c*e))+a)).toNat*4)) 0)=some (.bool h8)/\b.cell? (C2w (l.add ((B4 ((B4 (c*e))+a)).toNat*4)) 1)=some (.slice h9 i0 i1)/\b.cell? (C2w (l.add ((B4 ((B4 (c*e))+a)).toNat*4)) 2)=some (.bool i2)/\b.cell? (C2w (l.add ((B4 ((B4 (c*e))+a)).toNat*4)) 3)=some (.slice i3 i4 i5)/\∃ m,f=some m/\0<=c/\c<(g:Int)/\∃ (i6:Bool) (i7:OA) (i8 i9:Nat) (j0:Bool) (j1:OA) (j2 j3:Nat),b.cell? (C2w (m.add (c.toNat*4)) 0)=some (.bool i6)/\b.cell? (C2w (m.add (c.toNat*4)) 1)=some (.slice i7 i8 i9)/\b.cell? (C2w (m.add (c.toNat*4)) 2)=some (.bool j0)/\b.cell? (C2w (m.add (c.toNat*4)) 3)=some (.slice j1 j2 j3)/\FCall P A03 #[.agg #[.bool h8,.slice h9 i0 i1,.bool i2,.slice i3 i4 i5],.agg #[.bool i6,.slice i7 i8 i9,.bool j0,.slice j1 j2 j3]] b (fun p0 v=>∃ (j4:Bool) (j5:OA) (j6 j7:Nat) (j8:Bool) (j9:OA) (k0 k1:Nat),p0= .agg #[.bool j4,.slice j5 j6 j7,.bool j8,.slice j9 k0 k1]/\Heap.le b v/\FCall P A8y #[.agg #[.bool g8,.slice g9 h0 h1,.bool h2,.slice h3 h4 h5],.agg #[.bool j4,.slice j5 j6 j7,.bool j8,.slice j9 k0 k1]] v (fun p1 l4=>∃ (k2:Bool) (k3:OA) (k4 k5:Nat) (k6:Bool) (k7:OA) (k8 k9:Nat),p1= .agg #[.bool k2,.slice k3 k4 k5,.bool k6,.slice k7 k8 k9]/\Heap.le v l4/\∃ m4,f=some m4/\0<=a/\a<(g:Int)/\wpH P (C2x 106 (.pointer (some (m4.add (a.toNat*4)))) (.agg #[.bool k2,.slice k3 k4 k5,.bool k6,.slice k7 k8 k9])) (fun _ l5=>q [I (B4 (c+1))] l5/\g7 [I (B4 (c+1))] l5<g7 [I c] b) l4)))
 (p [I (B4 (a-1))] b/\g6 [I (B4 (a-1))] b<g6 [I a] o))
 (K (.slice f g w) o)) h
theorem A3d a(hvc:A4z prog a h K):FCall prog Nb #[.pointer a] h K:=
 C7 bod func98 [.tmp 2] ⟨[(10,⟨[10],[],[.int .i64 0],⟨([10,11]++Lrg 63 35),[]⟩⟩),(13,⟨[11],[],[.int .i64 0],⟨([11]++Lrg 69 29),[]⟩⟩)],[(9,⟨[],[],[],⟨([6,7,8,9]++Lrg 22 39),[8,9]⟩⟩)],[(7,([0,1,2,5,3,4,6,7,8,9,10],[]))],[],[]⟩ 99 [8,9] [72,81,106,120,130,165,166,167] [] (by kernel_rfl) hvc
def Ve(P:Program)(n1:OA)(l n2:Nat)(h:Heap)(K:VP):Prop:=
 FCall P A2r #[.slice n1 l n2] h (fun o5 o6=>∃ (g:OA) (i n3:Nat),o5= .slice g i n3/\FCall P A2o #[I (l:Int)] o6 (fun o7 o8=>∃ (v:OA) (w L:Nat),o7= .slice v w L/\∃ (C:LP) (M:LN),C [.slice none 0 0,I 0] o8/\
 ∀ z A B a j,C [.slice z A B,I a] j->Br (decide (a<(l:Int))) (∃ l5,g=some l5/\0<=a/\a<(i:Int)/\∃ (N:OA) (O n4:Nat),j.cell? (l5.add (a.toNat*1))=some (.slice N O n4)/\∃ m,N=some m/\0<=a/\a<(O:Int)/\∃ (Q:Bool) (R:OA) (S T:Nat) (V:Bool) (W:OA) (X Z:Nat),j.cell? (C2w (m.add (a.toNat*4)) 0)=some (.bool Q)/\j.cell? (C2w (m.add (a.toNat*4)) 1)=some (.slice R S T)/\j.cell? (C2w (m.add (a.toNat*4)) 2)=some (.bool V)/\j.cell? (C2w (m.add (a.toNat*4)) 3)=some (.slice W X Z)/\FCall P Ca #[.agg #[.bool Q,.slice R S T,.bool V,.slice W X Z]] j (fun o9 k=>∃ l6,o9=I l6/\Br (decide (l6<(0:Int))) (K (.tuple #[.slice none 0 0,.slice none 0 0,.bool false]) k)
 (∃ l7,g=some l7/\0<=a/\a<(i:Int)/\∃ (a0:OA) (a1 n5:Nat),k.cell? (l7.add (a.toNat*1))=some (.slice a0 a1 n5)/\∃ n,a0=some n/\0<=a/\a<(a1:Int)/\∃ (a2:Bool) (a3:OA) (a4 a5:Nat) (a6:Bool) (a7:OA) (a8 a9:Nat),k.cell? (C2w (n.add (a.toNat*4)) 0)=some (.bool a2)/\k.cell? (C2w (n.add (a.toNat*4)) 1)=some (.slice a3 a4 a5)/\k.cell? (C2w (n.add (a.toNat*4)) 2)=some (.bool a6)/\k.cell? (C2w (n.add (a.toNat*4)) 3)=some (.slice a7 a8 a9)/\wpH P (C2y 58 1 #[(0,.agg #[.bool a2,.slice a3 a4 a5,.bool a6,.slice a7 a8 a9])]) (fun p0 p1=>∃ (b0:OA) (b1 b2:Nat),p0= .slice b0 b1 b2/\wpH P (C2z #[58,58] 58 #[.slice z A B,.slice b0 b1 b2]) (fun p2 p3=>∃ (D:OA) (E F:Nat),p2= .slice D E F/\∃ (x:LP) (y:LN),x [I (B4 (a+1))] p3/\
 ∀ b f,x [I b] f->Br (decide (b<(l:Int))) (∃ l8,g=some l8/\0<=a/\a<(i:Int)/\∃ (b3:OA) (b4 n6:Nat),f.cell? (l8.add (a.toNat*1))=some (.slice b3 b4 n6)/\∃ o,b3=some o/\0<=a/\a<(b4:Int)/\∃ (b5:Bool) (b6:OA) (b7 b8:Nat) (b9:Bool) (c0:OA) (c1 c2:Nat),f.cell? (C2w (o.add (a.toNat*4)) 0)=some (.bool b5)/\f.cell? (C2w (o.add (a.toNat*4)) 1)=some (.slice b6 b7 b8)/\f.cell? (C2w (o.add (a.toNat*4)) 2)=some (.bool b9)/\f.cell? (C2w (o.add (a.toNat*4)) 3)=some (.slice c0 c1 c2)/\FCall P Ca #[.agg #[.bool b5,.slice b6 b7 b8,.bool b9,.slice c0 c1 c2]] f (fun p4 e=>∃ l9,p4=I l9/\Br (l9==(0:Int)) (∃ m0,g=some m0/\0<=b/\b<(i:Int)/\∃ (c3:OA) (c4 n7:Nat),e.cell? (m0.add (b.toNat*1))=some (.slice c3 c4 n7)/\∃ p,c3=some p/\0<=a/\a<(c4:Int)/\∃ (c5:Bool) (c6:OA) (c7 c8:Nat) (c9:Bool) (d0:OA) (d1 d2:Nat),e.cell? (C2w (p.add (a.toNat*4)) 0)=some (.bool c5)/\e.cell? (C2w (p.add (a.toNat*4)) 1)=some (.slice c6 c7 c8)/\e.cell? (C2w (p.add (a.toNat*4)) 2)=some (.bool c9)/\e.cell? (C2w (p.add (a.toNat*4)) 3)=some (.slice d0 d1 d2)/\FCall P Ca #[.agg #[.bool c5,.slice c6 c7 c8,.bool c9,.slice d0 d1 d2]] e (fun p5 H=>∃ m1,p5=I m1/\Br (m1 != (0:Int)) (K (.tuple #[.slice none 0 0,.slice none 0 0,.bool false]) H)
 (x [I (B4 (b+1))] H/\y [I (B4 (b+1))] H<y [I b] f)))
 (∃ m2,v=some m2/\0<=b/\b<(w:Int)/\∃ (d3:OA) (d4 n8:Nat),e.cell? (m2.add (b.toNat*1))=some (.slice d3 d4 n8)/\∃ m3,g=some m3/\0<=b/\b<(i:Int)/\∃ (d5:OA) (d6 n9:Nat),e.cell? (m3.add (b.toNat*1))=some (.slice d5 d6 n9)/\∃ q,d5=some q/\0<=a/\a<(d6:Int)/\∃ (d7:Bool) (d8:OA) (d9 e0:Nat) (e1:Bool) (e2:OA) (e3 e4:Nat),e.cell? (C2w (q.add (a.toNat*4)) 0)=some (.bool d7)/\e.cell? (C2w (q.add (a.toNat*4)) 1)=some (.slice d8 d9 e0)/\e.cell? (C2w (q.add (a.toNat*4)) 2)=some (.bool e1)/\e.cell? (C2w (q.add (a.toNat*4)) 3)=some (.slice e2 e3 e4)/\∃ m4,g=some m4/\0<=a/\a<(i:Int)/\∃ (e5:OA) (e6 o0:Nat),e.cell? (m4.add (a.toNat*1))=some (.slice e5 e6 o0)/\∃ r,e5=some r/\0<=a/\a<(e6:Int)/\∃ (e7:Bool) (e8:OA) (e9 f0:Nat) (f1:Bool) (f2:OA) (f3 f4:Nat),e.cell? (C2w (r.add (a.toNat*4)) 0)=some (.bool e7)/\e.cell? (C2w (r.add (a.toNat*4)) 1)=some (.slice e8 e9 f0)/\e.cell? (C2w (r.add (a.toNat*4)) 2)=some (.bool f1)/\e.cell? (C2w (r.add (a.toNat*4)) 3)=some (.slice f2 f3 f4)/\FCall P A2l #[.agg #[.bool d7,.slice d8 d9 e0,.bool e1,.slice e2 e3 e4],.agg #[.bool e7,.slice e8 e9 f0,.bool f1,.slice f2 f3 f4]] e (fun p6 l2=>∃ (f5:Bool) (f6:OA) (f7 f8:Nat) (f9:Bool) (g0:OA) (g1 g2:Nat),p6= .agg #[.bool f5,.slice f6 f7 f8,.bool f9,.slice g0 g1 g2]/\Heap.le e l2/\∃ m5,d3=some m5/\0<=a/\a<(d4:Int)/\wpH P (C2x 66 (.pointer (some (m5.add (a.toNat*4)))) (.agg #[.bool f5,.slice f6 f7 f8,.bool f9,.slice g0 g1 g2])) (fun _ p7=>∃ (G:LP) (g3:LN),G [I (B4 (a+1))] p7/\
 ∀ d c,G [I d] c->Br (decide (d<(l:Int))) (∃ m6,g=some m6/\0<=b/\b<(i:Int)/\∃ (g4:OA) (g5 o1:Nat),c.cell? (m6.add (b.toNat*1))=some (.slice g4 g5 o1)/\∃ m7,g=some m7/\0<=b/\b<(i:Int)/\∃ (g6:OA) (g7 o2:Nat),c.cell? (m7.add (b.toNat*1))=some (.slice g6 g7 o2)/\∃ s,g6=some s/\0<=d/\d<(g7:Int)/\∃ (g8:Bool) (g9:OA) (h0 h1:Nat) (h2:Bool) (h3:OA) (h4 h5:Nat),c.cell? (C2w (s.add (d.toNat*4)) 0)=some (.bool g8)/\c.cell? (C2w (s.add (d.toNat*4)) 1)=some (.slice g9 h0 h1)/\c.cell? (C2w (s.add (d.toNat*4)) 2)=some (.bool h2)/\c.cell? (C2w (s.add (d.toNat*4)) 3)=some (.slice h3 h4 h5)/\∃ m8,v=some m8/\0<=b/\b<(w:Int)/\∃ (h6:OA) (h7 o3:Nat),c.cell? (m8.add (b.toNat*1))=some (.slice h6 h7 o3)/\∃ t,h6=some t/\0<=a/\a<(h7:Int)/\∃ (h8:Bool) (h9:OA) (i0 i1:Nat) (i2:Bool) (i3:OA) (i4 i5:Nat),c.cell? (C2w (t.add (a.toNat*4)) 0)=some (.bool h8)/\c.cell? (C2w (t.add (a.toNat*4)) 1)=some (.slice h9 i0 i1)/\c.cell? (C2w (t.add (a.toNat*4)) 2)=some (.bool i2)/\c.cell? (C2w (t.add (a.toNat*4)) 3)=some (.slice i3 i4 i5)/\∃ m9,g=some m9/\0<=a/\a<(i:Int)/\∃ (i6:OA) (i7 o4:Nat),c.cell? (m9.add (a.toNat*1))=some (.slice i6 i7 o4)/\∃ u,i6=some u/\0<=d/\d<(i7:Int)/\∃ (i8:Bool) (i9:OA) (j0 j1:Nat) (j2:Bool) (j3:OA) (j4 j5:Nat),c.cell? (C2w (u.add (d.toNat*4)) 0)=some (.bool i8)/\c.cell? (C2w (u.add (d.toNat*4)) 1)=some (.slice i9 j0 j1)/\c.cell? (C2w (u.add (d.toNat*4)) 2)=some (.bool j2)/\c.cell? (C2w (u.add (d.toNat*4)) 3)=some (.slice j3 j4 j5)/\FCall P Rc #[.agg #[.bool h8,.slice h9 i0 i1,.bool i2,.slice i3 i4 i5],.agg #[.bool i8,.slice i9 j0 j1,.bool j2,.slice j3 j4 j5]] c (fun p8 J=>∃ (j6:Bool) (j7:OA) (j8 j9:Nat) (k0:Bool) (k1:OA) (k2 k3:Nat),p8= .agg #[.bool j6,.slice j7 j8 j9,.bool k0,.slice k1 k2 k3]/\Heap.le c J/\FCall P Ww #[.agg #[.bool g8,.slice g9 h0 h1,.bool h2,.slice h3 h4 h5],.agg #[.bool j6,.slice j7 j8 j9,.bool k0,.slice k1 k2 k3]] J (fun p9 l3=>∃ (k4:Bool) (k5:OA) (k6 k7:Nat) (k8:Bool) (k9:OA) (l0 l1:Nat),p9= .agg #[.bool k4,.slice k5 k6 k7,.bool k8,.slice k9 l0 l1]/\Heap.le J l3/\∃ n0,g4=some n0/\0<=d/\d<(g5:Int)/\wpH P (C2x 66 (.pointer (some (n0.add (d.toNat*4)))) (.agg #[.bool k4,.slice k5 k6 k7,.bool k8,.slice k9 l0 l1])) (fun _ l4=>G [I (B4 (d+1))] l4/\g3 [I (B4 (d+1))] l4<g3 [I d] c) l3)))
 (x [I (B4 (b+1))] c/\y [I (B4 (b+1))] c<y [I b] f)) l2))))
 (C [.slice D E F,I (B4 (a+1))] f/\M [.slice D E F,I (B4 (a+1))] f<M [.slice z A B,I a] j)) p1) k)))
 (K (.tuple #[.slice v w L,.slice z A B,.bool true]) j)))
theorem Yf a b c(hvc:Ve prog a b c h K):FCall prog Gk #[.slice a b c] h K:=
 C7 bod func99 [.tmp 2,.tmp 3,.tmp 4] { loops:=[(5,⟨[8,9],[],[.slice none 0 0,.int .i64 0],⟨([2,3,4,8,9,10,11]++Lrg 18 106),[]⟩⟩),(11,⟨[10],[],[.int .i64 0],⟨([2,3,4,10,11]++Lrg 44 80),[]⟩⟩),(18,⟨[11],[],[.int .i64 0],⟨([11]++Lrg 90 34),[]⟩⟩)] } 126 [] [39,65,94,110,168,169] [] (by kernel_rfl) hvc
def A17(P:Program)(b:OA)(c d:Nat)(h:Heap)(K:VP):Prop:=
 FCall P Gk #[.slice b c d] h (fun l m=>∃ (e:OA) (f g:Nat) (i:OA) (j k:Nat) (a:Bool),l= .tuple #[.slice e f g,.slice i j k,.bool a]/\K (.bool a) m)
theorem A16 a b c(hvc:A17 prog a b c h K):FCall prog Ep #[.slice a b c] h K:=
 C7 bod func37 [.tmp 2] an0 13 [] [99] [] (by kernel_rfl) hvc
def B9s(P:Program)(p:OA)(q r:Nat)(a:OA)(b c:Nat)(h:Heap)(K:VP):Prop:=
 FCall P A93 #[.slice p q r,.slice a b c] h (fun s t=>∃ (d:OA) (e f:Nat),s= .slice d e f/\FCall P A4c #[.slice a b c,.slice d e f] t (fun u v=>∃ (g:Bool) (i:OA) (j k:Nat) (l:Bool) (m:OA) (n o:Nat),u= .agg #[.bool g,.slice i j k,.bool l,.slice m n o]/\K (.agg #[.bool g,.slice i j k,.bool l,.slice m n o]) v))
theorem B3p a b c d e f(hvc:B9s prog a b c d e f h K):FCall prog A2n #[.slice a b c,.slice d e f] h K:=
 C7 bod func40 [.cell 4 66] an0 10 [4] [102,103] [] (by kernel_rfl) hvc
def B53(P:Program) (h:Heap)(K:VP):Prop:=
 wpH P (C2y 23 4 #[(0,.string ({ data:=#[52] }:ByteArray)),(1,.string ({ data:=#[50] }:ByteArray)),(2,.string ({ data:=#[50] }:ByteArray)),(3,.string ({ data:=#[49] }:ByteArray))]) (fun O Q=>∃ (c:OA) (d e:Nat),O= .slice c d e/\FCall P Ks #[.agg #[I 2,I 2,.slice c d e]] Q (fun R S=>∃ (C:Int) (D:Int) (f:OA) (g i:Nat) (j:OA) (k l:Nat) (m:Bool) (n:Int),R= .tuple #[.agg #[I C,I D,.slice f g i,.slice j k l],.bool m,I n]/\wpH P (C2y 23 4 #[(0,.string ({ data:=#[48] }:ByteArray)),(1,.string ({ data:=#[49] }:ByteArray)),(2,.string ({ data:=#[49] }:ByteArray)),(3,.string ({ data:=#[48] }:ByteArray))]) (fun T V=>∃ (o:OA) (p q:Nat),T= .slice o p q/\FCall P Ks #[.agg #[I 2,I 2,.slice o p q]] V (fun W a=>∃ (E:Int) (F:Int) (G:OA) (H J:Nat) (L:OA) (M N:Nat) (r:Bool) (s:Int),W= .tuple #[.agg #[I E,I F,.slice G H J,.slice L M N],.bool r,I s]/\Br m (Br (n==(0:Int)) (wpH P (C2y 23 2 #[(0,.string ({ data:=#[52] }:ByteArray)),(1,.string ({ data:=#[48] }:ByteArray))]) (fun X Z=>∃ (t:OA) (u v:Nat),X= .slice t u v/\FCall P Hr #[.slice j k l,.slice t u v] Z (fun a0 B=>∃ (w:Bool),a0= .bool w/\Br w (wpH P (C2y 23 4 #[(0,.string ({ data:=#[49] }:ByteArray)),(1,.string ({ data:=#[48] }:ByteArray)),(2,.string ({ data:=#[49,47,50] }:ByteArray)),(3,.string ({ data:=#[49] }:ByteArray))]) (fun a1 a2=>∃ (x:OA) (y z:Nat),a1= .slice x y z/\FCall P Hr #[.slice f g i,.slice x y z] a2 (fun a3 b=>∃ (A:Bool),a3= .bool A/\Br A (Br (!r) (K (.bool (s==(0:Int))) b)
 (K (.bool false) b))
 (K (.bool false) b))) B)
 (K (.bool false) B))) a)
 (K (.bool false) a))
 (K (.bool false) a))) S)) h
theorem B0l (hvc:B53 prog  h K):FCall prog Hp #[] h K:=
 C7 bod func33 [.tmp 0] an0 47 [1,4] [49,60] [] (by kernel_rfl) hvc
def Vd(P:Program)(f9:OA)(G i7:Nat)(g0:Int)(g1:OA)(H i8:Nat)(h:Heap)(K:VP):Prop:=
 FCall P A92 #[I g0,I 4] h (fun g4 g5=>∃ b,g4=I b/\∃ (q:LP) (r:LN),q [.slice none 0 0,I 0] g5/\
 ∀ i l f e g,q [.slice i l f,I e] g->Br (decide (e<(B4 ((B4 (b+1))*(B4 (b+1)))))) (Br (decide (e<(G:Int))) (∃ f4,f9=some f4/\0<=e/\e<(G:Int)/\∃ (J:ByteArray),g.cell? (f4.add (e.toNat*1))=some (.string J)/\FCall P A4a #[.string J] g (fun g6 g7=>∃ (L:Bool) (M:OA) (N O:Nat) (Q:Bool) (R:OA) (S T:Nat),g6= .agg #[.bool L,.slice M N O,.bool Q,.slice R S T]/\wpH P (C2y 58 1 #[(0,.agg #[.bool L,.slice M N O,.bool Q,.slice R S T])]) (fun g8 g9=>∃ (V:OA) (W X:Nat),g8= .slice V W X/\wpH P (C2z #[58,58] 58 #[.slice i l f,.slice V W X]) (fun h0 e9=>∃ (t:OA) (u v:Nat),h0= .slice t u v/\q [.slice t u v,I (B4 (e+1))] e9/\r [.slice t u v,I (B4 (e+1))] e9<r [.slice i l f,I e] g) g9) g7))
 (wpH P (C2y 58 1 #[(0,.agg #[.bool false,.slice none 0 0,.bool false,.slice none 0 0])]) (fun h1 h2=>∃ (Z:OA) (a0 a1:Nat),h1= .slice Z a0 a1/\wpH P (C2z #[58,58] 58 #[.slice i l f,.slice Z a0 a1]) (fun h3 f0=>∃ (w:OA) (x y:Nat),h3= .slice w x y/\q [.slice w x y,I (B4 (e+1))] f0/\r [.slice w x y,I (B4 (e+1))] f0<r [.slice i l f,I e] g) h2) g))
 (∃ (z:LP) (a2:LN),z [.slice none 0 0,I 0] g/\
 ∀ m n o c s,z [.slice m n o,I c] s->Br (decide (c<(B4 (b+1)))) ((0<=B4 ((B4 (c+1))*(B4 (b+1)))/\B4 ((B4 (c+1))*(B4 (b+1)))<=(f:Int))/\(0<=B4 (c*(B4 (b+1)))/\B4 (c*(B4 (b+1)))<=(((B4 ((B4 (c+1))*(B4 (b+1)))).toNat:Nat):Int))/\wpH P (C2y 52 1 #[(0,.slice (J5 i f ((B4 (c*(B4 (b+1)))).toNat) 4) (((B4 ((B4 (c+1))*(B4 (b+1)))).toNat)-((B4 (c*(B4 (b+1)))).toNat)) (f-((B4 (c*(B4 (b+1)))).toNat)))]) (fun h4 h5=>∃ (a3:OA) (a4 a5:Nat),h4= .slice a3 a4 a5/\wpH P (C2z #[52,52] 52 #[.slice m n o,.slice a3 a4 a5]) (fun h6 f1=>∃ (A:OA) (B C:Nat),h6= .slice A B C/\z [.slice A B C,I (B4 (c+1))] f1/\a2 [.slice A B C,I (B4 (c+1))] f1<a2 [.slice m n o,I c] s) h5) s)
 (FCall P A2p #[.slice m n o] s (fun h7 h8=>∃ (a6:OA) (a7 a8:Nat),h7= .slice a6 a7 a8/\FCall P Xc #[.slice a6 a7 a8,.slice m n o] h8 (fun h9 i0=>∃ (j:OA) (k D:Nat),h9= .slice j k D/\∃ (E:LP) (a9:LN),E [I 0] i0/\
 ∀ a d,E [I a] d->Br (decide (a<(B4 (b+1)))) (Br (decide (a<(H:Int))) (∃ f5,j=some f5/\0<=a/\a<(k:Int)/\∃ (b0:OA) (b1 g2:Nat),d.cell? (f5.add (a.toNat*1))=some (.slice b0 b1 g2)/\∃ f6,j=some f6/\0<=a/\a<(k:Int)/\∃ (b2:OA) (b3 g3:Nat),d.cell? (f6.add (a.toNat*1))=some (.slice b2 b3 g3)/\∃ p,b2=some p/\0<=a/\a<(b3:Int)/\∃ (b4:Bool) (b5:OA) (b6 b7:Nat) (b8:Bool) (b9:OA) (c0 c1:Nat),d.cell? (C2w (p.add (a.toNat*4)) 0)=some (.bool b4)/\d.cell? (C2w (p.add (a.toNat*4)) 1)=some (.slice b5 b6 b7)/\d.cell? (C2w (p.add (a.toNat*4)) 2)=some (.bool b8)/\d.cell? (C2w (p.add (a.toNat*4)) 3)=some (.slice b9 c0 c1)/\∃ f7,g1=some f7/\0<=a/\a<(H:Int)/\∃ (c2:ByteArray),d.cell? (f7.add (a.toNat*1))=some (.string c2)/\FCall P A4a #[.string c2] d (fun i1 F=>∃ (c3:Bool) (c4:OA) (c5 c6:Nat) (c7:Bool) (c8:OA) (c9 d0:Nat),i1= .agg #[.bool c3,.slice c4 c5 c6,.bool c7,.slice c8 c9 d0]/\Heap.le d F/\FCall P Ww #[.agg #[.bool b4,.slice b5 b6 b7,.bool b8,.slice b9 c0 c1],.agg #[.bool c3,.slice c4 c5 c6,.bool c7,.slice c8 c9 d0]] F (fun i2 f2=>∃ (d1:Bool) (d2:OA) (d3 d4:Nat) (d5:Bool) (d6:OA) (d7 d8:Nat),i2= .agg #[.bool d1,.slice d2 d3 d4,.bool d5,.slice d6 d7 d8]/\Heap.le F f2/\∃ f8,b0=some f8/\0<=a/\a<(b1:Int)/\wpH P (C2x 66 (.pointer (some (f8.add (a.toNat*4)))) (.agg #[.bool d1,.slice d2 d3 d4,.bool d5,.slice d6 d7 d8])) (fun _ f3=>E [I (B4 (a+1))] f3/\a9 [I (B4 (a+1))] f3<a9 [I a] d) f2)))
 (FCall P Re #[.slice j k D] d (fun i3 i4=>∃ (d9:Int) (e0:Int) (e1:OA) (e2 e3:Nat),i3= .agg #[I d9,I e0,.slice e1 e2 e3]/\K (.agg #[I d9,I e0,.slice e1 e2 e3]) i4)))
 (FCall P Re #[.slice j k D] d (fun i5 i6=>∃ (e4:Int) (e5:Int) (e6:OA) (e7 e8:Nat),i5= .agg #[I e4,I e5,.slice e6 e7 e8]/\K (.agg #[I e4,I e5,.slice e6 e7 e8]) i6)))))))
theorem Yd a b c d e f g(hvc:Vd prog a b c d e f g h K):FCall prog Gj #[.slice a b c,I d,.slice e f g] h K:=
 C7 bod func34 [.cell 6 25] { loops:=[(4,⟨[7,8],[],[.slice none 0 0,.int .i64 0],⟨([7,8,9]++Lrg 17 21),[9]⟩⟩),(12,⟨[10,11],[],[.slice none 0 0,.int .i64 0],⟨([10,11]++Lrg 38 17),[]⟩⟩),(17,⟨[13],[],[.int .i64 0],⟨([13]++Lrg 59 30),[]⟩⟩)] } 91 [6,9] [29,64,91,92,93,94] [] (by kernel_rfl) hvc
def B58(P:Program)(f:OA)(a g:Nat)(i:OA)(b j:Nat)(h:Heap)(K:VP):Prop:=
 Br (decide ((a:Int)<=(20:Int))) (Br (decide ((b:Int)<=(8:Int))) (FCall P Pk #[I 8,.slice f a g] h (fun k e=>∃ (c:Bool),k= .bool c/\Br c (FCall P Pk #[I 8,.slice i b j] e (fun l m=>∃ (d:Bool),l= .bool d/\K (.bool d) m))
 (K (.bool false) e)))
 (K (.bool false) h))
 (K (.bool false) h)
theorem B0z a b c d e f(hvc:B58 prog a b c d e f h K):FCall prog Xa #[.slice a b c,.slice d e f] h K:=
 C7 bod func32 [.tmp 4] an0 21 [] [14] [] (by kernel_rfl) hvc
def So(P:Program)(o:OA)(p q:Nat)(V:Int)(r:OA)(s t:Nat)(h:Heap)(K:VP):Prop:=
 FCall P Xa #[.slice o p q,.slice r s t] h (fun X Q=>∃ (u:Bool),X= .bool u/\Br (!u) (FCall P Hp #[] Q (fun Z a0=>∃ (v:Bool),Z= .bool v/\K (.bool v) a0))
 (FCall P Gj #[.slice o p q,I V,.slice r s t] Q (fun a1 a2=>∃ (a:Int) (c:Int) (d:OA) (e f:Nat),a1= .agg #[I a,I c,.slice d e f]/\FCall P A2q #[.agg #[I a,I c,.slice d e f]] a2 (fun a3 a4=>∃ (g:OA) (i j:Nat) (W:Bool),a3= .tuple #[.slice g i j,.bool W]/\FCall P Nd #[.agg #[I a,I c,.slice d e f]] a4 (fun a5 R=>∃ (w:OA) (k x:Nat) (l:Bool) (y:Int),a5= .tuple #[.slice w k x,.bool l,I y]/\Br (y != (0:Int)) (K (.bool false) R)
 (FCall P Ep #[.slice g i j] R (fun a6 b=>∃ (z:Bool),a6= .bool z/\Br (l==z) (K (.bool false) b)
 (Br (!l) (Br ((k:Int)==(0:Int)) (FCall P Hp #[] b (fun a7 a8=>∃ (A:Bool),a7= .bool A/\K (.bool A) a8))
 (K (.bool false) b))
 (FCall P Wx #[.slice w k x] b (fun a9 n=>∃ (B:OA) (m C:Nat) (D:Bool),a9= .tuple #[.slice B m C,.bool D]/\Br D (Br ((m:Int)==a) (FCall P A2n #[.slice g i j,.slice B m C] n (fun b0 b1=>∃ (E:Bool) (F:OA) (G H:Nat) (J:Bool) (L:OA) (M N:Nat),b0= .agg #[.bool E,.slice F G H,.bool J,.slice L M N]/\FCall P Ca #[.agg #[.bool E,.slice F G H,.bool J,.slice L M N]] b1 (fun b2 S=>∃ T,b2=I T/\Br (decide (T<(0:Int))) (FCall P Hp #[] S (fun b3 b4=>∃ (O:Bool),b3= .bool O/\K (.bool O) b4))
 (K (.bool false) S))))
 (K (.bool false) n))
 (K (.bool false) n)))))))))))
theorem Tq a b c d e f g(hvc:So prog a b c d e f g h K):FCall prog Kq #[.slice a b c,I d,.slice e f g] h K:=
 C7 bod func5 [.tmp 6] an0 74 [7] (Lrg 32 9) [] (by kernel_rfl) hvc
end Go.Proofs.YtajkakhfcokljaaGreatDoor
