/-
  Texts of this proof, merged by a program of ours.
-/
import Derived.Test.YtajkakhfcokljaaGreatDoorProg
import Derived.Test.YtajkakhfcokljaaGreatDoorG05
import Derived.Test.YtajkakhfcokljaaGreatDoorG06
import Derived.Test.YtajkakhfcokljaaGreatDoorG13
import Derived.Test.YtajkakhfcokljaaGreatDoorG07
import Derived.Test.YtajkakhfcokljaaGreatDoorG10
import Derived.Test.YtajkakhfcokljaaGreatDoorG27
import Derived.Test.YtajkakhfcokljaaGreatDoorG09
import Derived.Test.YtajkakhfcokljaaGreatDoorG29
open Go.Proofs.Tryz
open _root_.Go.Addr renaming add->C5h
open _root_.Go.Builtin renaming append_->C5k
open _root_.ByteArray renaming toList->C5l
open _root_.Go.Instr renaming buildSlice->C5i,storeAt->C5j
namespace Go.Proofs.YtajkakhfcokljaaGreatDoor
set_option linter.all false
open Go
set_option maxRecDepth 100000
variable {h:Heap} {K:VP}
abbrev B6u:Nat:=55
abbrev Zn:Nat:=95
abbrev Nb:Nat:=49
abbrev C1i:Nat:=42
abbrev C30:Nat:=44
abbrev C0i:Nat:=36
abbrev C2y:Nat:=56
abbrev C2z:Nat:=52
abbrev C3y:Nat:=126
abbrev R6:Nat:=118
abbrev Hp:Nat:=96
abbrev Iz:Nat:=48
abbrev A7x:Nat:=120
abbrev Bu:Nat:=122
abbrev Iy:Nat:=165
abbrev C0h:Nat:=98
abbrev Oz:Nat:=119
abbrev Fs:Nat:=181
abbrev C1e:Nat:=41
abbrev B6t:Nat:=99
abbrev B91:Nat:=37
abbrev C1f:Nat:=50
abbrev C1g:Nat:=43
abbrev C2w:Nat:=45
abbrev C2t:Nat:=124
abbrev C2v:Nat:=185
abbrev C0f:Nat:=51
abbrev C3u:Nat:=40
abbrev C2s:Nat:=57
abbrev C2u:Nat:=53
abbrev Cu:Nat:=33
abbrev Ho:Nat:=34
abbrev Zl:Nat:=32
abbrev C3s:Nat:=54
abbrev C1d:Nat:=10
abbrev B6r:Nat:=9
abbrev B6s:Nat:=7
abbrev B50:Nat:=5
abbrev A8u:Nat:=6
abbrev B16:Nat:=11
abbrev U5:Nat:=8
abbrev B8z:Nat:=12
abbrev C2p:Nat:=111
abbrev C34:Nat:=72
abbrev Ew:Nat:=173
abbrev C0o:Nat:=145
def C2j(P:Program)(f:Int)(d:Int)(g:OA)(i w:Nat)(h:Heap)(K:VP):Prop:=
 FCall P Oy #[.agg #[I f,I d,.slice g i w]] h (fun x l=>∃ (m:OA) (n o:Nat) (p:Bool),x= .tuple #[.slice m n o,.bool p]/\Br (!p) (K (.tuple #[.slice none 0 0,I 1]) l)
 (Br (f != d) (K (.tuple #[.slice none 0 0,I 4]) l)
 (∃ (j:LP) (q:LN),j [I 0] l/\
 ∀ a e,j [I a] e->Br (decide (a<f)) (∃ (k:LP) (r:LN),k [I 0] e/\
 ∀ b c,k [I b] c->Br (decide (b<a)) (∃ u,g=some u/\0<=B5 ((B5 (a*d))+b)/\B5 ((B5 (a*d))+b)<(i:Int)/\∃ (s:ByteArray),c.cell? (u.add ((B5 ((B5 (a*d))+b)).toNat*1))=some (.string s)/\∃ v,g=some v/\0<=B5 ((B5 (b*d))+a)/\B5 ((B5 (b*d))+a)<(i:Int)/\∃ (t:ByteArray),c.cell? (v.add ((B5 ((B5 (b*d))+a)).toNat*1))=some (.string t)/\Br (!(C5l s==C5l t)) (K (.tuple #[.slice none 0 0,I 4]) c)
 (k [I (B5 (b+1))] c/\r [I (B5 (b+1))] c<r [I b] c))
 (j [I (B5 (a+1))] c/\q [I (B5 (a+1))] c<q [I a] e))
 (K (.tuple #[.slice m n o,I 0]) e))))
theorem B66 a b c d e(hvc:C2j prog a b c d e h K):FCall prog Zn #[.agg #[I a,I b,.slice c d e]] h K:=
 C9 bod func95 [.tmp 2,.tmp 3] { loops:=[(7,⟨[22],[],[.int .i64 0],⟨([2,3,6,7]++Lrg 22 30),[]⟩⟩),(10,⟨[26],[],[.int .i64 0],⟨([2,3,7]++Lrg 26 25),[]⟩⟩)] } 53 [1] [67] [] (by kernel_rfl) hvc
def B3g(P:Program)(c:Int)(f:Int)(B:OA)(C D:Nat)(h:Heap)(K:VP):Prop:=
 FCall P Zn #[.agg #[I c,I f,.slice B C D]] h (fun E x=>∃ (g:OA) (i j:Nat) (d:Int),E= .tuple #[.slice g i j,I d]/\Br (d != (0:Int)) (K (.tuple #[.agg #[I 0,I 0,.slice none 0 0,.slice none 0 0],.bool false,I d]) x)
 (FCall P Hp #[.slice g i j,I c] x (fun F a=>∃ (e:OA) (k:Bool),F= .tuple #[.pointer e,.bool k]/\Br (!k) (K (.tuple #[.agg #[I 0,I 0,.slice none 0 0,.slice none 0 0],.bool false,I 0]) a)
 (∃ z,e=some z/\∃ (l:OA) (m n:Nat),a.cell? (z.add 5)=some (.slice l m n)/\FCall P Eb #[.slice l m n] a (fun G b=>∃ (o:OA) (p q:Nat),G= .slice o p q/\Heap.le a b/\∃ A,e=some A/\∃ (r:OA) (s t:Nat),b.cell? (A.add 6)=some (.slice r s t)/\FCall P Eb #[.slice r s t] b (fun H y=>∃ (u:OA) (v w:Nat),H= .slice u v w/\Heap.le b y/\K (.tuple #[.agg #[I c,I f,.slice o p q,.slice u v w],.bool true,I 0]) y))))))
theorem A8p a b c d e(hvc:B3g prog a b c d e h K):FCall prog Nb #[.agg #[I a,I b,.slice c d e]] h K:=
 C9 bod func49 [.cell 2 72,.tmp 3,.tmp 4] { orders:=[(7,((Lrg 0 8++[10,8,9,11]),[]))] } 46 [1,2,9] [95,96,97] [] (by kernel_rfl) hvc
def Co(P:Program)(i:OA)(j k:Nat)(a:Int)(h:Heap)(K:VP):Prop:=
 FCall P Cj #[.slice i j k,I a] h (fun l m=>∃ (b:OA),l= .pointer b/\FCall P Qa #[I 1] m (fun n o=>∃ (c:Bool) (d:OA) (e f:Nat),n= .agg #[.bool c,.slice d e f]/\wpH P (Instr.box 173 (.agg #[I a,I 0,.pointer b,.bool c,.slice d e f,.slice none 0 0,.slice none 0 0])) (fun p q=>∃ (g:Addr),p= .pointer (some g)/\K (.pointer (some g)) q) o))
theorem Db a b c d(hvc:Co prog a b c d h K):FCall prog R6 #[.slice a b c,I d] h K:=
 C9 bod func118 [.tmp 4] an0 12 [] [68,139] [1000000000] (by kernel_rfl) hvc
def Xm(P:Program)(d7:OA)(d8 d9:Nat)(b:Int)(h:Heap)(K:VP):Prop:=
 FCall P R6 #[.slice d7 d8 d9,I b] h (fun e4 e5=>∃ (c:OA),e4= .pointer c/\wpH P (Instr.makeSlice 95 (I (B5 (b*b))) (I (B5 (b*b)))) (fun e6 e7=>∃ (z:OA) (A B:Nat),e6= .slice z A B/\∃ c5,c=some c5/\wpH P (C5j 95 (.pointer (some (c5.add 5))) (.slice z A B)) (fun _ e8=>wpH P (Instr.makeSlice 95 (I b) (I b)) (fun e9 f0=>∃ (C:OA) (D E:Nat),e9= .slice C D E/\∃ c6,c=some c6/\wpH P (C5j 95 (.pointer (some (c6.add 6))) (.slice C D E)) (fun _ f1=>∃ (r:LP) (s:LN),r [.bool true,I 0] f1/\
 ∀ n a p,r [.bool n,I a] p->Br (decide (a<b)) (FCall P A7x #[.pointer c,I a,I a] p (fun f2 f3=>∃ (e:Bool) (f:OA) (g i:Nat) (j:Bool) (k:OA) (l m:Nat),f2= .agg #[.bool e,.slice f g i,.bool j,.slice k l m]/\FCall P Iy #[.pointer c] f3 (fun f4 f5=>∃ (e0:Int) (F:Bool),f4= .tuple #[I e0,.bool F]/\∃ (u:LP),(FCall P Zc #[.agg #[.bool e,.slice f g i,.bool j,.slice k l m]] f5 (fun f6 b8=>∃ c7,f6=I c7/\Br (decide (c7<(0:Int))) (K (.tuple #[.pointer c,.bool false]) b8)
 (FCall P Ml #[.agg #[.bool e,.slice f g i,.bool j,.slice k l m]] b8 (fun f7 w=>∃ (G:Bool),f7= .bool G/\Br G (Br F (K (.tuple #[.pointer c,.bool false]) w)
 (u [.bool n] w))
 (u [.bool n] w)))))/\
 ∀ q t,u [.bool q] t->∃ c8,c=some c8/\∃ (H:OA) (J e1:Nat),t.cell? (c8.add 5)=some (.slice H J e1)/\FCall P Zb #[I 1] t (fun f8 b9=>∃ (L:Bool) (M:OA) (N O:Nat) (Q:Bool) (R:OA) (S T:Nat),f8= .agg #[.bool L,.slice M N O,.bool Q,.slice R S T]/\Heap.le t b9/\∃ c9,H=some c9/\0<=B5 ((B5 (a*b))+a)/\B5 ((B5 (a*b))+a)<(J:Int)/\wpH P (C5j 106 (.pointer (some (c9.add ((B5 ((B5 (a*b))+a)).toNat*4)))) (.agg #[.bool L,.slice M N O,.bool Q,.slice R S T])) (fun _ c0=>∃ d0,c=some d0/\∃ (V:OA) (W e2:Nat),c0.cell? (d0.add 6)=some (.slice V W e2)/\∃ d1,V=some d1/\0<=a/\a<(W:Int)/\wpH P (C5j 106 (.pointer (some (d1.add (a.toNat*4)))) (.agg #[.bool e,.slice f g i,.bool j,.slice k l m])) (fun _ f9=>FCall P Ml #[.agg #[.bool e,.slice f g i,.bool j,.slice k l m]] f9 (fun g0 x=>∃ (X:Bool),g0= .bool X/\Br X (∃ d2,c=some d2/\∃ d3,x.cell? (d2.add 1)=some (I d3)/\∃ d4,c=some d4/\wpH P (C5j 3 (.pointer (some (d4.add 1))) (I (B5 (d3+1)))) (fun _ c1=>r [.bool q,I (B5 (a+1))] c1/\s [.bool q,I (B5 (a+1))] c1<s [.bool n,I a] p) x)
 (∃ (v:LP) (Z:LN),v [I (B5 (a+1))] x/\
 ∀ d o,v [I d] o->Br (decide (d<b)) (∃ d5,c=some d5/\∃ (a0:OA) (a1 e3:Nat),o.cell? (d5.add 5)=some (.slice a0 a1 e3)/\FCall P A7x #[.pointer c,I d,I a] o (fun g1 y=>∃ (a2:Bool) (a3:OA) (a4 a5:Nat) (a6:Bool) (a7:OA) (a8 a9:Nat),g1= .agg #[.bool a2,.slice a3 a4 a5,.bool a6,.slice a7 a8 a9]/\Heap.le o y/\FCall P Tf #[.agg #[.bool a2,.slice a3 a4 a5,.bool a6,.slice a7 a8 a9],.agg #[.bool e,.slice f g i,.bool j,.slice k l m]] y (fun g2 c2=>∃ (b0:Bool) (b1:OA) (b2 b3:Nat) (b4:Bool) (b5:OA) (b6 b7:Nat),g2= .agg #[.bool b0,.slice b1 b2 b3,.bool b4,.slice b5 b6 b7]/\Heap.le y c2/\∃ d6,a0=some d6/\0<=B5 ((B5 (d*b))+a)/\B5 ((B5 (d*b))+a)<(a1:Int)/\wpH P (C5j 106 (.pointer (some (d6.add ((B5 ((B5 (d*b))+a)).toNat*4)))) (.agg #[.bool b0,.slice b1 b2 b3,.bool b4,.slice b5 b6 b7])) (fun _ c3=>v [I (B5 (d+1))] c3/\Z [I (B5 (d+1))] c3<Z [I d] o) c2)))
 (FCall P Bu #[.pointer c] o (fun g3 c4=>g3= .tuple #[]/\r [.bool q,I (B5 (a+1))] c4/\s [.bool q,I (B5 (a+1))] c4<s [.bool n,I a] p))))) c0) b9))))
 (K (.tuple #[.pointer c,.bool n]) p)) f0) e8) e7) e5)
theorem A0i a b c d(hvc:Xm prog a b c d h K):FCall prog Hp #[.slice a b c,I d] h K:=
 C9 bod func96 [.tmp 4,.tmp 5] ⟨[(6,⟨[7,29],[],[.bool false,.int .i64 0],⟨([7,8,9,10,11,12]++Lrg 29 75),[9]⟩⟩),(17,⟨[12],[],[.int .i64 0],⟨([12]++Lrg 80 21),[]⟩⟩)],[(12,⟨[7],[],[.bool false],⟨([7]++Lrg 41 10),[]⟩⟩)],[(19,((Lrg 0 12++[13,12,14,15,16]),[]))],[],[]⟩ 106 [9] [72,106,118,120,121,122,165,166] [122] (by kernel_rfl) hvc
def A70(P:Program)(i:Int)(G:Int)(H:OA)(J L:Nat)(h:Heap)(K:VP):Prop:=
 FCall P Zn #[.agg #[I i,I G,.slice H J L]] h (fun M y=>∃ (m:OA) (n o:Nat) (j:Int),M= .tuple #[.slice m n o,I j]/\Br (j != (0:Int)) (K (.tuple #[I 0,I 0,I 0,I j]) y)
 (FCall P R6 #[.slice m n o,I i] y (fun N O=>∃ (c:OA),N= .pointer c/\∃ (e:LP) (f:LN),e [I 0,I 0] O/\
 ∀ a b g,e [I a,I b] g->FCall P Oz #[.pointer c] g (fun Q d=>∃ (p:Bool),Q= .bool p/\Br p (∃ B,c=some B/\∃ C,d.cell? (B.add 1)=some (I C)/\∃ D,c=some D/\∃ E,d.cell? (D.add 1)=some (I E)/\FCall P A7x #[.pointer c,I C,I E] d (fun R k=>∃ (q:Bool) (r:OA) (s t:Nat) (u:Bool) (v:OA) (w x:Nat),R= .agg #[.bool q,.slice r s t,.bool u,.slice v w x]/\Heap.le d k/\FCall P Zc #[.agg #[.bool q,.slice r s t,.bool u,.slice v w x]] k (fun S l=>∃ F,S=I F/\Heap.le k l/\Br (decide (F>(0:Int))) (FCall P Bu #[.pointer c] l (fun T z=>T= .tuple #[]/\e [I (B5 (a+1)),I b] z/\f [I (B5 (a+1)),I b] z<f [I a,I b] g))
 (FCall P Bu #[.pointer c] l (fun V A=>V= .tuple #[]/\e [I a,I (B5 (b+1))] A/\f [I a,I (B5 (b+1))] A<f [I a,I b] g)))))
 (K (.tuple #[I a,I (B5 ((B5 (i-a))-b)),I b,I 0]) d)))))
theorem A5a a b c d e(hvc:A70 prog a b c d e h K):FCall prog Iz #[.agg #[I a,I b,.slice c d e]] h K:=
 C9 bod func48 [.tmp 2,.tmp 3,.tmp 4,.tmp 5] { loops:=[(6,⟨[9,10],[],[.int .i64 0,.int .i64 0],⟨([9,10]++Lrg 23 20),[]⟩⟩)] } 51 [1] [95,118,119,120,121,122] [119,122] (by kernel_rfl) hvc
def EAt(P:Program)(e:OA)(a:Int)(d:Int)(h:Heap)(K:VP):Prop:=
 ∃ a1,e=some a1/\∃ (j:OA),h.cell? (a1.add 2)=some (.pointer j)/\∃ g,e=some g/\∃ (k:Bool) (l:OA) (m n:Nat),h.cell? (C5h (g.add 3) 0)=some (.bool k)/\h.cell? (C5h (g.add 3) 1)=some (.slice l m n)/\∃ a2,e=some a2/\∃ (o:OA),h.cell? (a2.add 2)=some (.pointer o)/\∃ a3,o=some a3/\∃ (p:OA) (q a4:Nat),h.cell? (a3.add 2)=some (.slice p q a4)/\∃ c,p=some c/\0<=a/\a<(q:Int)/\∃ (r:Bool) (s:OA) (t u:Nat) (v:Bool) (w:OA) (x y:Nat),h.cell? (C5h (c.add (a.toNat*4)) 0)=some (.bool r)/\h.cell? (C5h (c.add (a.toNat*4)) 1)=some (.slice s t u)/\h.cell? (C5h (c.add (a.toNat*4)) 2)=some (.bool v)/\h.cell? (C5h (c.add (a.toNat*4)) 3)=some (.slice w x y)/\FCall P Ac #[.pointer j,I a] h (fun a6 b=>∃ (z:OA) (A a5:Nat),a6= .slice z A a5/\Heap.le h b/\∃ i,z=some i/\0<=d/\d<(A:Int)/\∃ (B:Bool) (C:OA) (D E:Nat),b.cell? (C5h (i.add (d.toNat*2)) 0)=some (.bool B)/\b.cell? (C5h (i.add (d.toNat*2)) 1)=some (.slice C D E)/\FCall P S8 #[.agg #[.bool B,.slice C D E],.agg #[.bool k,.slice l m n]] b (fun a7 f=>∃ (F:Bool) (G:OA) (H J:Nat) (L:Bool) (M:OA) (N O:Nat),a7= .agg #[.bool F,.slice G H J,.bool L,.slice M N O]/\Heap.le b f/\FCall P Tf #[.agg #[.bool F,.slice G H J,.bool L,.slice M N O],.agg #[.bool r,.slice s t u,.bool v,.slice w x y]] f (fun a8 a0=>∃ (Q:Bool) (R:OA) (S T:Nat) (V:Bool) (W:OA) (X Z:Nat),a8= .agg #[.bool Q,.slice R S T,.bool V,.slice W X Z]/\Heap.le f a0/\K (.agg #[.bool Q,.slice R S T,.bool V,.slice W X Z]) a0)))
theorem C2i a b c(hvc:EAt prog a b c h K):FCall prog A7x #[.pointer a,I b,I c] h K:=
 C9 bod func120 [.cell 6 106] { orders:=[(1,(([0,1,2,3,4,6,9,10,11,12]++Lrg 14 10++[5,7,8,13,24,25]),[]))] } 32 [6] [72,132,144] [] (by kernel_rfl) hvc
def A6z(P:Program)(c:OA)(h:Heap)(K:VP):Prop:=
 ∃ y,c=some y/\∃ a,h.cell? (y.add 1)=some (I a)/\∃ (e:LP) (j:LN),e [I (B5 (a+1))] h/\
 ∀ d b,e [I d] b->∃ z,c=some z/\∃ A,b.cell? (z.add 0)=some (I A)/\Br (decide (d<A)) (∃ B,c=some B/\∃ (k:OA),b.cell? (B.add 2)=some (.pointer k)/\∃ g,c=some g/\∃ (l:Bool) (m:OA) (n o:Nat),b.cell? (C5h (g.add 3) 0)=some (.bool l)/\b.cell? (C5h (g.add 3) 1)=some (.slice m n o)/\FCall P Rm #[.pointer k,I d,I a,I a,.agg #[.bool l,.slice m n o]] b (fun J w=>J= .tuple #[]/\e [I (B5 (d+1))] w/\j [I (B5 (d+1))] w<j [I d] b))
 (∃ C,c=some C/\∃ (p:OA),b.cell? (C.add 2)=some (.pointer p)/\FCall P Ac #[.pointer p,I a] b (fun L f=>∃ (q:OA) (r H:Nat),L= .slice q r H/\∃ i,q=some i/\0<=a/\a<(r:Int)/\∃ (s:Bool) (t:OA) (u v:Nat),f.cell? (C5h (i.add (a.toNat*2)) 0)=some (.bool s)/\f.cell? (C5h (i.add (a.toNat*2)) 1)=some (.slice t u v)/\∃ D,c=some D/\wpH P (C5j 102 (.pointer (some (D.add 3))) (.agg #[.bool s,.slice t u v])) (fun _ x=>∃ E,c=some E/\∃ F,x.cell? (E.add 1)=some (I F)/\∃ G,c=some G/\wpH P (C5j 3 (.pointer (some (G.add 1))) (I (B5 (F+1)))) (fun _ M=>K (.tuple #[]) M) x) f))
theorem A59 a(hvc:A6z prog a h K):FCall prog Bu #[.pointer a] h K:=
 C9 bod func122 [] { loops:=[(2,⟨[3],[],[.int .i64 0],⟨([3]++Lrg 10 20),[]⟩⟩)] } 49 [] [143,144] [143] (by kernel_rfl) hvc
def A6y(P:Program)(e:OA)(h:Heap)(K:VP):Prop:=
 ∃ s,e=some s/\∃ t,h.cell? (s.add 1)=some (I t)/\∃ (g:LP) (j:LN),g [I (B5 (t+1))] h/\
 ∀ b a,g [I b] a->∃ u,e=some u/\∃ v,a.cell? (u.add 0)=some (I v)/\Br (decide (b<v)) (∃ w,e=some w/\∃ (k:OA),a.cell? (w.add 2)=some (.pointer k)/\∃ x,e=some x/\∃ d,a.cell? (x.add 1)=some (I d)/\FCall P Ac #[.pointer k,I b] a (fun z c=>∃ (l:OA) (m y:Nat),z= .slice l m y/\Heap.le a c/\∃ i,l=some i/\0<=d/\d<(m:Int)/\∃ (n:Bool) (o:OA) (p q:Nat),c.cell? (C5h (i.add (d.toNat*2)) 0)=some (.bool n)/\c.cell? (C5h (i.add (d.toNat*2)) 1)=some (.slice o p q)/\FCall P G0 #[.agg #[.bool n,.slice o p q]] c (fun A f=>∃ (r:Bool),A= .bool r/\Heap.le c f/\Br (!r) (K (.tuple #[I b,.bool true]) f)
 (g [I (B5 (b+1))] f/\j [I (B5 (b+1))] f<j [I b] a))))
 (K (.tuple #[I 0,.bool false]) a)
theorem A58 a(hvc:A6y prog a h K):FCall prog Iy #[.pointer a] h K:=
 C9 bod func165 [.tmp 2,.tmp 3] ⟨[(2,⟨[4],[],[.int .i64 0],⟨([2,3,4]++Lrg 10 23),[]⟩⟩)],[],[(4,([0,1,2,3,4,6,7,8,9,5,10,11,12,13],[]))],[],[]⟩ 33 [] [138,144] [] (by kernel_rfl) hvc
def A6x(P:Program)(b:OA)(h:Heap)(K:VP):Prop:=
 ∃ b5,b=some b5/\∃ b6,h.cell? (b5.add 1)=some (I b6)/\∃ (p:LP) (z:LN),p [I b6] h/\
 ∀ d e,p [I d] e->∃ b7,b=some b7/\∃ b8,e.cell? (b7.add 0)=some (I b8)/\Br (decide (d<b8)) (∃ b9,b=some b9/\∃ (A:OA),e.cell? (b9.add 2)=some (.pointer A)/\FCall P Ac #[.pointer A,I d] e (fun d9 t=>∃ (B:OA) (C d6:Nat),d9= .slice B C d6/\∃ v,B=some v/\0<=d/\d<(C:Int)/\∃ (D:Bool) (E:OA) (F G:Nat),t.cell? (C5h (v.add (d.toNat*2)) 0)=some (.bool D)/\t.cell? (C5h (v.add (d.toNat*2)) 1)=some (.slice E F G)/\FCall P G0 #[.agg #[.bool D,.slice E F G]] t (fun e0 n=>∃ (H:Bool),e0= .bool H/\Br (!H) (∃ c0,b=some c0/\∃ c1,n.cell? (c0.add 1)=some (I c1)/\FCall P Fs #[.pointer b,I c1,I d] n (fun e1 e2=>e1= .tuple #[]/\K (.bool true) e2))
 (p [I (B5 (d+1))] n/\z [I (B5 (d+1))] n<z [I d] e))))
 (∃ c2,b=some c2/\∃ c3,e.cell? (c2.add 1)=some (I c3)/\∃ (q:LP) (J:LN),q [I c3] e/\
 ∀ a k,q [I a] k->∃ c4,b=some c4/\∃ c5,k.cell? (c4.add 0)=some (I c5)/\Br (decide (a<c5)) (∃ (r:LP) (L:LN),r [I (B5 (a+1))] k/\
 ∀ c f,r [I c] f->∃ c6,b=some c6/\∃ c7,f.cell? (c6.add 0)=some (I c7)/\Br (decide (c<c7)) (∃ c8,b=some c8/\∃ (M:OA),f.cell? (c8.add 2)=some (.pointer M)/\FCall P Ac #[.pointer M,I a] f (fun e3 u=>∃ (N:OA) (O d7:Nat),e3= .slice N O d7/\∃ w,N=some w/\0<=c/\c<(O:Int)/\∃ (Q:Bool) (R:OA) (S T:Nat),u.cell? (C5h (w.add (c.toNat*2)) 0)=some (.bool Q)/\u.cell? (C5h (w.add (c.toNat*2)) 1)=some (.slice R S T)/\FCall P G0 #[.agg #[.bool Q,.slice R S T]] u (fun e4 o=>∃ (V:Bool),e4= .bool V/\Br V (r [I (B5 (c+1))] o/\L [I (B5 (c+1))] o<L [I c] f)
 (∃ c9,b=some c9/\∃ (W:OA),o.cell? (c9.add 2)=some (.pointer W)/\FCall P 182 #[.pointer W,I a,I c] o (fun e5 b2=>e5= .tuple #[]/\∃ d0,b=some d0/\∃ d1,b2.cell? (d0.add 0)=some (I d1)/\∃ (s:LP) (X:LN),s [I 0] b2/\
 ∀ i j,s [I i] j->Br (decide (i<d1)) (∃ d2,b=some d2/\∃ (Z:OA),j.cell? (d2.add 2)=some (.pointer Z)/\FCall P Ac #[.pointer Z,I i] j (fun e6 g=>∃ (l:OA) (m d8:Nat),e6= .slice l m d8/\∃ x,l=some x/\0<=a/\a<(m:Int)/\∃ (a0:Bool) (a1:OA) (a2 a3:Nat),g.cell? (C5h (x.add (a.toNat*2)) 0)=some (.bool a0)/\g.cell? (C5h (x.add (a.toNat*2)) 1)=some (.slice a1 a2 a3)/\∃ y,l=some y/\0<=c/\c<(m:Int)/\∃ (a4:Bool) (a5:OA) (a6 a7:Nat),g.cell? (C5h (y.add (c.toNat*2)) 0)=some (.bool a4)/\g.cell? (C5h (y.add (c.toNat*2)) 1)=some (.slice a5 a6 a7)/\FCall P A65 #[.agg #[.bool a0,.slice a1 a2 a3],.agg #[.bool a4,.slice a5 a6 a7]] g (fun e7 b3=>∃ (a8:Bool) (a9:OA) (b0 b1:Nat),e7= .agg #[.bool a8,.slice a9 b0 b1]/\Heap.le g b3/\∃ d3,l=some d3/\0<=a/\a<(m:Int)/\wpH P (C5j 102 (.pointer (some (d3.add (a.toNat*2)))) (.agg #[.bool a8,.slice a9 b0 b1])) (fun _ b4=>s [I (B5 (i+1))] b4/\X [I (B5 (i+1))] b4<X [I i] j) b3)))
 (∃ d4,b=some d4/\∃ d5,j.cell? (d4.add 1)=some (I d5)/\FCall P Fs #[.pointer b,I d5,I a] j (fun e8 e9=>e8= .tuple #[]/\K (.bool true) e9)))))))
 (q [I (B5 (a+1))] f/\J [I (B5 (a+1))] f<J [I a] k))
 (K (.bool false) k))
theorem A57 a(hvc:A6x prog a h K):FCall prog Oz #[.pointer a] h K:=
 C9 bod func119 [.tmp 2] { loops:=[(2,⟨[3],[],[.int .i64 0],⟨([2,3]++Lrg 12 26),[]⟩⟩),(8,⟨[4],[],[.int .i64 0],⟨([2,4,5,6,7]++Lrg 42 68),[]⟩⟩),(11,⟨[5],[],[.int .i64 0],⟨([2,5,6,7]++Lrg 52 58),[]⟩⟩),(16,⟨[81],[],[.int .i64 0],⟨([6,7]++Lrg 81 22),[]⟩⟩)] } 110 [] [138,144,181,182,183] [181,182] (by kernel_rfl) hvc
def A38(P:Program)(i:OA)(a:Int)(b:Int)(h:Heap)(K:VP):Prop:=
 Br (a==b) (K (.tuple #[]) h)
 (∃ z,i=some z/\∃ (m:OA),h.cell? (z.add 2)=some (.pointer m)/\FCall P Zp #[.pointer m,I a,I b] h (fun G x=>G= .tuple #[]/\∃ A,i=some A/\∃ B,x.cell? (A.add 0)=some (I B)/\∃ (j:LP) (n:LN),j [I 0] x/\
 ∀ c g,j [I c] g->Br (decide (c<B)) (∃ C,i=some C/\∃ (o:OA),g.cell? (C.add 2)=some (.pointer o)/\FCall P Ac #[.pointer o,I c] g (fun H f=>∃ (d:OA) (e F:Nat),H= .slice d e F/\∃ k,d=some k/\0<=b/\b<(e:Int)/\∃ (p:Bool) (q:OA) (r s:Nat),f.cell? (C5h (k.add (b.toNat*2)) 0)=some (.bool p)/\f.cell? (C5h (k.add (b.toNat*2)) 1)=some (.slice q r s)/\∃ l,d=some l/\0<=a/\a<(e:Int)/\∃ (t:Bool) (u:OA) (v w:Nat),f.cell? (C5h (l.add (a.toNat*2)) 0)=some (.bool t)/\f.cell? (C5h (l.add (a.toNat*2)) 1)=some (.slice u v w)/\∃ D,d=some D/\0<=a/\a<(e:Int)/\wpH P (C5j 102 (.pointer (some (D.add (a.toNat*2)))) (.agg #[.bool p,.slice q r s])) (fun _ J=>∃ E,d=some E/\0<=b/\b<(e:Int)/\wpH P (C5j 102 (.pointer (some (E.add (b.toNat*2)))) (.agg #[.bool t,.slice u v w])) (fun _ y=>j [I (B5 (c+1))] y/\n [I (B5 (c+1))] y<n [I c] g) J) f))
 (K (.tuple #[]) g)))
theorem A37 a b c(hvc:A38 prog a b c h K):FCall prog Fs #[.pointer a,I b,I c] h K:=
 C9 bod func181 [] { loops:=[(3,⟨[22],[],[.int .i64 0],⟨([6,7]++Lrg 22 24),[]⟩⟩)] } 46 [] [142,144] [142] (by kernel_rfl) hvc
def B7k(P:Program) (h:Heap)(K:VP):Prop:=
 wpH P (C5i 23 4 #[(0,.string ({ data:=#[52] }:ByteArray)),(1,.string ({ data:=#[50] }:ByteArray)),(2,.string ({ data:=#[50] }:ByteArray)),(3,.string ({ data:=#[49] }:ByteArray))]) (fun O Q=>∃ (c:OA) (d e:Nat),O= .slice c d e/\FCall P Nb #[.agg #[I 2,I 2,.slice c d e]] Q (fun R S=>∃ (C:Int) (D:Int) (f:OA) (g i:Nat) (j:OA) (k l:Nat) (m:Bool) (n:Int),R= .tuple #[.agg #[I C,I D,.slice f g i,.slice j k l],.bool m,I n]/\wpH P (C5i 23 4 #[(0,.string ({ data:=#[48] }:ByteArray)),(1,.string ({ data:=#[49] }:ByteArray)),(2,.string ({ data:=#[49] }:ByteArray)),(3,.string ({ data:=#[48] }:ByteArray))]) (fun T V=>∃ (o:OA) (p q:Nat),T= .slice o p q/\FCall P Nb #[.agg #[I 2,I 2,.slice o p q]] V (fun W a=>∃ (E:Int) (F:Int) (G:OA) (H J:Nat) (L:OA) (M N:Nat) (r:Bool) (s:Int),W= .tuple #[.agg #[I E,I F,.slice G H J,.slice L M N],.bool r,I s]/\Br m (Br (n==(0:Int)) (wpH P (C5i 23 2 #[(0,.string ({ data:=#[52] }:ByteArray)),(1,.string ({ data:=#[48] }:ByteArray))]) (fun X Z=>∃ (t:OA) (u v:Nat),X= .slice t u v/\FCall P Iw #[.slice j k l,.slice t u v] Z (fun a0 B=>∃ (w:Bool),a0= .bool w/\Br w (wpH P (C5i 23 4 #[(0,.string ({ data:=#[49] }:ByteArray)),(1,.string ({ data:=#[48] }:ByteArray)),(2,.string ({ data:=#[49,47,50] }:ByteArray)),(3,.string ({ data:=#[49] }:ByteArray))]) (fun a1 a2=>∃ (x:OA) (y z:Nat),a1= .slice x y z/\FCall P Iw #[.slice f g i,.slice x y z] a2 (fun a3 b=>∃ (A:Bool),a3= .bool A/\Br A (Br (!r) (K (.bool (s==(0:Int))) b)
 (K (.bool false) b))
 (K (.bool false) b))) B)
 (K (.bool false) B))) a)
 (K (.bool false) a))
 (K (.bool false) a))) S)) h
theorem B2t (hvc:B7k prog  h K):FCall prog Cu #[] h K:=
 C9 bod func33 [.tmp 0] an0 47 [1,4] [49,60] [] (by kernel_rfl) hvc
def Xl(P:Program)(f9:OA)(G i7:Nat)(g0:Int)(g1:OA)(H i8:Nat)(h:Heap)(K:VP):Prop:=
 FCall P B17 #[I g0,I 4] h (fun g4 g5=>∃ b,g4=I b/\∃ (q:LP) (r:LN),q [.slice none 0 0,I 0] g5/\
 ∀ i l f e g,q [.slice i l f,I e] g->Br (decide (e<(B5 ((B5 (b+1))*(B5 (b+1)))))) (Br (decide (e<(G:Int))) (∃ f4,f9=some f4/\0<=e/\e<(G:Int)/\∃ (J:ByteArray),g.cell? (f4.add (e.toNat*1))=some (.string J)/\FCall P A67 #[.string J] g (fun g6 g7=>∃ (L:Bool) (M:OA) (N O:Nat) (Q:Bool) (R:OA) (S T:Nat),g6= .agg #[.bool L,.slice M N O,.bool Q,.slice R S T]/\wpH P (C5i 58 1 #[(0,.agg #[.bool L,.slice M N O,.bool Q,.slice R S T])]) (fun g8 g9=>∃ (V:OA) (W X:Nat),g8= .slice V W X/\wpH P (C5k #[58,58] 58 #[.slice i l f,.slice V W X]) (fun h0 e9=>∃ (t:OA) (u v:Nat),h0= .slice t u v/\q [.slice t u v,I (B5 (e+1))] e9/\r [.slice t u v,I (B5 (e+1))] e9<r [.slice i l f,I e] g) g9) g7))
 (wpH P (C5i 58 1 #[(0,.agg #[.bool false,.slice none 0 0,.bool false,.slice none 0 0])]) (fun h1 h2=>∃ (Z:OA) (a0 a1:Nat),h1= .slice Z a0 a1/\wpH P (C5k #[58,58] 58 #[.slice i l f,.slice Z a0 a1]) (fun h3 f0=>∃ (w:OA) (x y:Nat),h3= .slice w x y/\q [.slice w x y,I (B5 (e+1))] f0/\r [.slice w x y,I (B5 (e+1))] f0<r [.slice i l f,I e] g) h2) g))
 (∃ (z:LP) (a2:LN),z [.slice none 0 0,I 0] g/\
 ∀ m n o c s,z [.slice m n o,I c] s->Br (decide (c<(B5 (b+1)))) ((0<=B5 ((B5 (c+1))*(B5 (b+1)))/\B5 ((B5 (c+1))*(B5 (b+1)))<=(f:Int))/\(0<=B5 (c*(B5 (b+1)))/\B5 (c*(B5 (b+1)))<=(((B5 ((B5 (c+1))*(B5 (b+1)))).toNat:Nat):Int))/\wpH P (C5i 52 1 #[(0,.slice (L0 i f ((B5 (c*(B5 (b+1)))).toNat) 4) (((B5 ((B5 (c+1))*(B5 (b+1)))).toNat)-((B5 (c*(B5 (b+1)))).toNat)) (f-((B5 (c*(B5 (b+1)))).toNat)))]) (fun h4 h5=>∃ (a3:OA) (a4 a5:Nat),h4= .slice a3 a4 a5/\wpH P (C5k #[52,52] 52 #[.slice m n o,.slice a3 a4 a5]) (fun h6 f1=>∃ (A:OA) (B C:Nat),h6= .slice A B C/\z [.slice A B C,I (B5 (c+1))] f1/\a2 [.slice A B C,I (B5 (c+1))] f1<a2 [.slice m n o,I c] s) h5) s)
 (FCall P A4l #[.slice m n o] s (fun h7 h8=>∃ (a6:OA) (a7 a8:Nat),h7= .slice a6 a7 a8/\FCall P Zm #[.slice a6 a7 a8,.slice m n o] h8 (fun h9 i0=>∃ (j:OA) (k D:Nat),h9= .slice j k D/\∃ (E:LP) (a9:LN),E [I 0] i0/\
 ∀ a d,E [I a] d->Br (decide (a<(B5 (b+1)))) (Br (decide (a<(H:Int))) (∃ f5,j=some f5/\0<=a/\a<(k:Int)/\∃ (b0:OA) (b1 g2:Nat),d.cell? (f5.add (a.toNat*1))=some (.slice b0 b1 g2)/\∃ f6,j=some f6/\0<=a/\a<(k:Int)/\∃ (b2:OA) (b3 g3:Nat),d.cell? (f6.add (a.toNat*1))=some (.slice b2 b3 g3)/\∃ p,b2=some p/\0<=a/\a<(b3:Int)/\∃ (b4:Bool) (b5:OA) (b6 b7:Nat) (b8:Bool) (b9:OA) (c0 c1:Nat),d.cell? (C5h (p.add (a.toNat*4)) 0)=some (.bool b4)/\d.cell? (C5h (p.add (a.toNat*4)) 1)=some (.slice b5 b6 b7)/\d.cell? (C5h (p.add (a.toNat*4)) 2)=some (.bool b8)/\d.cell? (C5h (p.add (a.toNat*4)) 3)=some (.slice b9 c0 c1)/\∃ f7,g1=some f7/\0<=a/\a<(H:Int)/\∃ (c2:ByteArray),d.cell? (f7.add (a.toNat*1))=some (.string c2)/\FCall P A67 #[.string c2] d (fun i1 F=>∃ (c3:Bool) (c4:OA) (c5 c6:Nat) (c7:Bool) (c8:OA) (c9 d0:Nat),i1= .agg #[.bool c3,.slice c4 c5 c6,.bool c7,.slice c8 c9 d0]/\Heap.le d F/\FCall P A4i #[.agg #[.bool b4,.slice b5 b6 b7,.bool b8,.slice b9 c0 c1],.agg #[.bool c3,.slice c4 c5 c6,.bool c7,.slice c8 c9 d0]] F (fun i2 f2=>∃ (d1:Bool) (d2:OA) (d3 d4:Nat) (d5:Bool) (d6:OA) (d7 d8:Nat),i2= .agg #[.bool d1,.slice d2 d3 d4,.bool d5,.slice d6 d7 d8]/\Heap.le F f2/\∃ f8,b0=some f8/\0<=a/\a<(b1:Int)/\wpH P (C5j 66 (.pointer (some (f8.add (a.toNat*4)))) (.agg #[.bool d1,.slice d2 d3 d4,.bool d5,.slice d6 d7 d8])) (fun _ f3=>E [I (B5 (a+1))] f3/\a9 [I (B5 (a+1))] f3<a9 [I a] d) f2)))
 (FCall P Th #[.slice j k D] d (fun i3 i4=>∃ (d9:Int) (e0:Int) (e1:OA) (e2 e3:Nat),i3= .agg #[I d9,I e0,.slice e1 e2 e3]/\K (.agg #[I d9,I e0,.slice e1 e2 e3]) i4)))
 (FCall P Th #[.slice j k D] d (fun i5 i6=>∃ (e4:Int) (e5:Int) (e6:OA) (e7 e8:Nat),i5= .agg #[I e4,I e5,.slice e6 e7 e8]/\K (.agg #[I e4,I e5,.slice e6 e7 e8]) i6)))))))
theorem A0g a b c d e f g(hvc:Xl prog a b c d e f g h K):FCall prog Ho #[.slice a b c,I d,.slice e f g] h K:=
 C9 bod func34 [.cell 6 25] { loops:=[(4,⟨[7,8],[],[.slice none 0 0,.int .i64 0],⟨([7,8,9]++Lrg 17 21),[9]⟩⟩),(12,⟨[10,11],[],[.slice none 0 0,.int .i64 0],⟨([10,11]++Lrg 38 17),[]⟩⟩),(17,⟨[13],[],[.int .i64 0],⟨([13]++Lrg 59 30),[]⟩⟩)] } 91 [6,9] [29,64,91,92,93,94] [] (by kernel_rfl) hvc
def B7s(P:Program)(f:OA)(a g:Nat)(i:OA)(b j:Nat)(h:Heap)(K:VP):Prop:=
 Br (decide ((a:Int)<=(20:Int))) (Br (decide ((b:Int)<=(8:Int))) (FCall P Na #[I 8,.slice f a g] h (fun k e=>∃ (c:Bool),k= .bool c/\Br c (FCall P Na #[I 8,.slice i b j] e (fun l m=>∃ (d:Bool),l= .bool d/\K (.bool d) m))
 (K (.bool false) e)))
 (K (.bool false) h))
 (K (.bool false) h)
theorem B3a a b c d e f(hvc:B7s prog a b c d e f h K):FCall prog Zl #[.slice a b c,.slice d e f] h K:=
 C9 bod func32 [.tmp 4] an0 21 [] [14] [] (by kernel_rfl) hvc
def Aj(P:Program)(E:OA)(F G:Nat)(e2:Int)(H:OA)(J L:Nat)(n:OA)(l e3:Nat)(h:Heap)(K:VP):Prop:=
 FCall P Zl #[.slice E F G,.slice H J L] h (fun e4 B=>∃ (M:Bool),e4= .bool M/\Br (!M) (FCall P Cu #[] B (fun e5 e6=>∃ (N:Bool),e5= .bool N/\K (.bool N) e6))
 (Br (decide ((l:Int)>(20:Int))) (FCall P Cu #[] B (fun e7 e8=>∃ (O:Bool),e7= .bool O/\K (.bool O) e8))
 (FCall P Na #[I 6,.slice n l e3] B (fun e9 d6=>∃ (Q:Bool),e9= .bool Q/\Br (!Q) (FCall P Cu #[] d6 (fun f0 f1=>∃ (R:Bool),f0= .bool R/\K (.bool R) f1))
 (FCall P Ho #[.slice E F G,I e2,.slice H J L] d6 (fun f2 f3=>∃ (j:Int) (o:Int) (p:OA) (q r:Nat),f2= .agg #[I j,I o,.slice p q r]/\∃ (m:LP) (k:LN),m [I 0,I j,I j,.slice none 0 0] f3/\
 ∀ a b c d e f i,m [I a,I b,I c,.slice d e f] i->Br (decide (a<(B5 (j*j)))) (Br (decide (a<(l:Int))) (∃ e0,n=some e0/\0<=a/\a<(l:Int)/\∃ (S:ByteArray),i.cell? (e0.add (a.toNat*1))=some (.string S)/\FCall P Rg #[.string S] i (fun f4 C=>∃ (T:Bool),f4= .bool T/\Br T (∃ e1,n=some e1/\0<=a/\a<(l:Int)/\∃ (V:ByteArray),C.cell? (e1.add (a.toNat*1))=some (.string V)/\wpH P (C5i 23 1 #[(0,.string V)]) (fun f5 f6=>∃ (W:OA) (X Z:Nat),f5= .slice W X Z/\wpH P (C5k #[23,23] 23 #[.slice d e f,.slice W X Z]) (fun f7 d7=>∃ (s:OA) (t u:Nat),f7= .slice s t u/\m [I (B5 (a+1)),I b,I c,.slice s t u] d7/\k [I (B5 (a+1)),I b,I c,.slice s t u] d7<k [I a,I b,I c,.slice d e f] i) f6) C)
 (wpH P (C5i 23 1 #[(0,.string ({ data:=#[48] }:ByteArray))]) (fun f8 f9=>∃ (a0:OA) (a1 a2:Nat),f8= .slice a0 a1 a2/\wpH P (C5k #[23,23] 23 #[.slice d e f,.slice a0 a1 a2]) (fun g0 d8=>∃ (v:OA) (w x:Nat),g0= .slice v w x/\m [I (B5 (a+1)),I b,I c,.slice v w x] d8/\k [I (B5 (a+1)),I b,I c,.slice v w x] d8<k [I a,I b,I c,.slice d e f] i) f9) C)))
 (wpH P (C5i 23 1 #[(0,.string ({ data:=#[48] }:ByteArray))]) (fun g1 g2=>∃ (a3:OA) (a4 a5:Nat),g1= .slice a3 a4 a5/\wpH P (C5k #[23,23] 23 #[.slice d e f,.slice a3 a4 a5]) (fun g3 d9=>∃ (y:OA) (z A:Nat),g3= .slice y z A/\m [I (B5 (a+1)),I b,I c,.slice y z A] d9/\k [I (B5 (a+1)),I b,I c,.slice y z A] d9<k [I a,I b,I c,.slice d e f] i) g2) i))
 (FCall P B15 #[.agg #[I b,I c,.slice d e f]] i (fun g4 D=>∃ (a6:ByteArray) (a7:Int),g4= .tuple #[.string a6,I a7]/\Br (a7 != (0:Int)) (K (.bool false) D)
 (Br (C5l a6==C5l ({ data:=#[48] }:ByteArray)) (FCall P Cu #[] D (fun g5 g6=>∃ (a8:Bool),g5= .bool a8/\K (.bool a8) g6))
 (FCall P Hl #[.agg #[I b,I c,.slice d e f]] D (fun g7 g8=>∃ (a9:Int) (b0:Int) (b1:OA) (b2 b3:Nat) (b4:Int),g7= .tuple #[.agg #[I a9,I b0,.slice b1 b2 b3],I b4]/\FCall P A69 #[.agg #[I b,I c,.slice d e f],.agg #[I j,I o,.slice p q r]] g8 (fun g9 h0=>∃ (b5:Int) (b6:Int) (b7:OA) (b8 b9:Nat) (c0:Int),g9= .tuple #[.agg #[I b5,I b6,.slice b7 b8 b9],I c0]/\FCall P A69 #[.agg #[I b5,I b6,.slice b7 b8 b9],.agg #[I a9,I b0,.slice b1 b2 b3]] h0 (fun h1 h2=>∃ (c1:Int) (c2:Int) (c3:OA) (c4 c5:Nat) (c6:Int),h1= .tuple #[.agg #[I c1,I c2,.slice c3 c4 c5],I c6]/\FCall P Iz #[.agg #[I j,I o,.slice p q r]] h2 (fun h3 h4=>∃ (c7:Int) (c8:Int) (c9:Int) (d0:Int),h3= .tuple #[I c7,I c8,I c9,I d0]/\FCall P Iz #[.agg #[I c1,I c2,.slice c3 c4 c5]] h4 (fun h5 g=>∃ (d1:Int) (d2:Int) (d3:Int) (d4:Int),h5= .tuple #[I d1,I d2,I d3,I d4]/\Br (b4==(0:Int)) (Br (c0==(0:Int)) (Br (c6==(0:Int)) (Br (d0==(0:Int)) (Br (d4==(0:Int)) (Br (c7==d1) (Br (c8==d2) (Br (c9==d3) (FCall P Cu #[] g (fun h6 h7=>∃ (d5:Bool),h6= .bool d5/\K (.bool d5) h7))
 (K (.bool false) g))
 (K (.bool false) g))
 (K (.bool false) g))
 (K (.bool false) g))
 (K (.bool false) g))
 (K (.bool false) g))
 (K (.bool false) g))
 (K (.bool false) g))))))))))))))))
theorem Ep a b c d e f g i j k(hvc:Aj prog a b c d e f g i j k h K):FCall prog U5 #[.slice a b c,I d,.slice e f g,.slice i j k] h K:=
 C9 bod func8 [.tmp 8] { loops:=[(6,⟨[11],[(10,3)],[.int .i64 0,.int .i64 0,.int .i64 0,.slice none 0 0],⟨([11,12]++Lrg 52 30),[10]⟩⟩)] } 159 [9,10,15,16,18] [14,25,26,32,33,34,46,47,48] [] (by kernel_rfl) hvc
end Go.Proofs.YtajkakhfcokljaaGreatDoor
