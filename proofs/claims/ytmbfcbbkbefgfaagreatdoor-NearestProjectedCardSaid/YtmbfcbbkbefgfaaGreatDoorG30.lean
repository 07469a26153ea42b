/- A part. -/
import Derived.Test.YtmbfcbbkbefgfaaGreatDoorG28
open Go.Proofs.Tryz
set_option linter.all false
open _root_.Go.Instr renaming storeAt->aD
open _root_.Go renaming Program->aE
open _root_.Go.Proofs.YtmbfcbbkbefgfaaGreatDoor renaming FCall->aC,Heap->aF
namespace Go.Proofs.YtmbfcbbkbefgfaaGreatDoor
open Go
set_option maxRecDepth 100000
variable {h:aF} {K:VP}
abbrev Cn:Nat:=121
abbrev Y8:Nat:=216
abbrev Qw:Nat:=212
abbrev Db:Nat:=119
abbrev Ko:Nat:=48
abbrev Ix:Nat:=128
abbrev C3p:Nat:=51
abbrev A1k:Nat:=52
abbrev A93:Nat:=7
abbrev Da:Nat:=8
abbrev B0p:Nat:=9
abbrev B4e:Nat:=42
abbrev A1d:Nat:=49
abbrev C5v:Nat:=60
abbrev It:Nat:=43
abbrev A4e:Nat:=116
abbrev Ml:Nat:=46
abbrev Vi:Nat:=45
abbrev A6x:Nat:=44
abbrev Af:Nat:=53
abbrev C5t:Nat:=171
def A9w(P:aE)(b:ByteArray)(h:aF)(K:VP):Prop:=
 aC P B4c #[.string ({ data:=#[49] }:ByteArray),.string b] h (fun d e=>∃ (a:ByteArray) (c:Bool),d= .tuple #[.string a,.bool c]/\K (.string a) e)
def A7y a(hvc:A9w prog a h K):aC prog Cn #[.string a] h K:=
 fnk func121 an0 [] [] hvc
def Ps(P:aE)(a b:ByteArray)(h:aF)(K:VP):Prop:=
 aC P Vh #[.string b] h (fun w q=>∃ t,w=I t/\Bd (t<0) (aC P A4d #[.string b] q (fun x y=>∃ (e:ByteArray),x= .string e/\aC P A4d #[.string a] y (fun z A=>∃ (f:ByteArray),z= .string f/\aC P Y8 #[.string e,.string f] A (fun B C=>∃ (g:ByteArray),B= .string g/\aC P A4d #[.string g] C (fun D E=>∃ (i:ByteArray),D= .string i/\K (.string i) E)))))
 (aC P Vh #[.string a] q (fun F r=>∃ u,F=I u/\Bd (u<=0) (K (.string ({ data:=#[48] }:ByteArray)) r)
 (aC P A6v #[.string a] r (fun G H=>∃ (d:ByteArray),G= .string d/\aC P Kk #[.string d,.string b] H (fun J s=>∃ v,J=I v/\Bd (v<=0) (K (.string d) s)
 (aC P A1c #[.string a] s (fun L M=>∃ (c:ByteArray),L= .string c/\aC P A4c #[.string b,.string c] M (fun N O=>∃ (j:ByteArray),N= .string j/\aC P Cn #[.string j] O (fun Q R=>∃ (k:ByteArray),Q= .string k/\aC P A4c #[.string a,.string c] R (fun S T=>∃ (l:ByteArray),S= .string l/\aC P Cn #[.string l] T (fun V W=>∃ (m:ByteArray),V= .string m/\aC P Y8 #[.string k,.string m] W (fun X Z=>∃ (n:ByteArray),X= .string n/\aC P Cn #[.string n] Z (fun a0 a1=>∃ (o:ByteArray),a0= .string o/\aC P A8v #[.string c,.string o] a1 (fun a2 a3=>∃ (p:ByteArray),a2= .string p/\K (.string p) a3)))))))))))))))
def Jt a b(hvc:Ps prog a b h K):aC prog Y8 #[.string a,.string b] h K:=
 fnk func216 an0 [] [] hvc
def A9v(P:aE)(r:OA)(j u:Nat)(h:aF)(K:VP):Prop:=
 ∃ (e:LP) (k:LN),e [I 0] h/\
 ∀ a d,e [I a] d->Bd (a<(j:Int)) (∃ o,Ax r o a j <| ∃ p g t,Hd d (o.add (a.toNat*1)) p g t <| ∃ (f:LP) (l:LN),f [I 0] d/\
 ∀ b c,f [I b] c->Bd (b<(g:Int)) (∃ q,Ax p q b g <| ∃ (m:ByteArray),c.cell? (q.add (b.toNat*1))=some (.string m)/\aC P Dl #[.string m] c (fun s i=>∃ (n:Bool),s= .bool n/\Br (!n) (K (.bool false) i)
 (f [I (B5 (b+1))] i/\l [I (B5 (b+1))] i<l [I b] c)))
 (e [I (B5 (a+1))] c/\k [I (B5 (a+1))] c<k [I a] d))
 (K (.bool true) d)
def A7x a b c(hvc:A9v prog a b c h K):aC prog Qw #[Sl a b c] h K:=
 fnk func212 { loops:=[(2,⟨[9],[],[I 0],⟨([2,4,6]++Lrg 9 15),[]⟩⟩),(5,⟨[15],[],[I 0],⟨([2,6]++Lrg 15 8),[]⟩⟩)] } [] [] hvc
def Pu(P:aE)(i:Int)(e:Int)(w:OA)(x y:Nat)(z:OA)(j A:Nat)(B:OA)(k C:Nat)(l:OA)(d D:Nat)(h:aF)(K:VP):Prop:=
 aC P Tm #[Mv i e w x y] h (fun E q=>∃ (m:Bool),E= .bool m/\Br (!m) (K (I 1) q)
 (wpH P (Instr.buildSlice 314 3 #[(0,Sl z j A),(1,Sl B k C),(2,Sl l d D)]) (fun F G=>∃ r s t,F=Sl r s t/\aC P Qw #[Sl r s t] G (fun H b=>∃ (n:Bool),H= .bool n/\Br (!n) (K (I 1) b)
 (Br ((j:Int) != i) (K (I 4) b)
 (Br ((k:Int) != e) (K (I 4) b)
 (Br ((d:Int) != e) (K (I 4) b)
 (∃ (f:LP) (o:LN),f [I 0] b/\
 ∀ a c,f [I a] c->Bd (a<(d:Int)) (∃ u,Ax l u a d <| ∃ (p:ByteArray),c.cell? (u.add (a.toNat*1))=some (.string p)/\aC P Vh #[.string p] c (fun J g=>∃ v,J=I v/\Bd (v<=0) (K (I 3) g)
 (f [I (B5 (a+1))] g/\o [I (B5 (a+1))] g<o [I a] c)))
 (K (I 0) c))))))) q))
def Sw a b c d e f g i j k l m n o(hvc:Pu prog a b c d e f g i j k l m n o h K):aC prog Db #[Mv a b c d e,Sl f g i,Sl j k l,Sl m n o] h K:=
 fnk func119 { loops:=[(6,⟨[43],[],[I 0],⟨([8,10]++Lrg 43 8),[]⟩⟩)] } [4] [] hvc
def A9u(P:aE)(p:Int)(f:Int)(q:OA)(r s:Nat)(M:OA)(N d5:Nat)(v:OA)(w O:Nat)(Q:OA)(x d6:Nat)(h:aF)(K:VP):Prop:=
 aC P Db #[Mv p f q r s,Sl M N d5,Sl v w O,Sl Q x d6] h (fun e0 b7=>∃ L,e0=I L/\Br (L != 0) (K (.tuple #[Sl none 0 0,I L]) b7)
 (aC P Iv #[Mv p f q r s] b7 (fun e1 b8=>∃ (y:Int) (e:Int) (k:OA) (l z:Nat) (A:Int),e1= .tuple #[Mv y e k l z,I A]/\Br (A != 0) (K (.tuple #[Sl none 0 0,I A]) b8)
 (∃ (B:LP) (R:LN),B [I 0] b8/\
 ∀ a o,B [I a] o->Bd (a<(x:Int)) (∃ c7,Ax Q c7 a x <| ∃ (S:ByteArray),o.cell? (c7.add (a.toNat*1))=some (.string S)/\aC P Cn #[.string S] o (fun e2 e3=>∃ (T:ByteArray),e2= .string T/\∃ (C:LP) (V:LN),C [I 0] e3/\
 ∀ d g,C [I d] g->Bd (d<e) (∃ f,Ax k f (B5 ((B5 (a*e))+d)) l <| ∃ (W:ByteArray),g.cell? (f.add ((B5 ((B5 (a*e))+d)).toNat*1))=some (.string W)/\aC P B4b #[.string T,.string W] g (fun e4 b9=>∃ (X:ByteArray),e4= .string X/\g.le b9/\∃ c8,Ax k c8 (B5 ((B5 (a*e))+d)) l<|wpH P (aD 9 (Pt (c8.add ((B5 ((B5 (a*e))+d)).toNat*1))) (.string X)) (fun _ c0=>C [I (B5 (d+1))] c0/\V [I (B5 (d+1))] c0<V [I d] g) b9))
 (B [I (B5 (a+1))] g/\R [I (B5 (a+1))] g<R [I a] o)))
 (aC P A92 #[Mv p f q r s,Mv y e k l z] o (fun e5 c1=>∃ (Z:Int) (a0:Int) (a1:OA) (a2 a3:Nat) (D:Int),e5= .tuple #[Mv Z a0 a1 a2 a3,I D]/\Br (D != 0) (K (.tuple #[Sl none 0 0,I D]) c1)
 (aC P Tp #[Mv p f q r s,Sl v w O] c1 (fun e6 c2=>∃ (t:OA) (m a4:Nat) (E:Int),e6= .tuple #[Sl t m a4,I E]/\Br (E != 0) (K (.tuple #[Sl none 0 0,I E]) c2)
 (∃ (F:LP) (a5:LN),F [I 0] c2/\
 ∀ b i,F [I b] i->Bd (b<(m:Int)) (∃ c9,Ax t c9 b m <| ∃ (a6:ByteArray),i.cell? (c9.add (b.toNat*1))=some (.string a6)/\∃ d0,Ax M d0 b N <| ∃ (a7:ByteArray),i.cell? (d0.add (b.toNat*1))=some (.string a7)/\aC P A4c #[.string a7,.string a6] i (fun e7 e8=>∃ (a8:ByteArray),e7= .string a8/\∃ d1,Ax t d1 b m<|wpH P (aD 9 (Pt (d1.add (b.toNat*1))) (.string a8)) (fun _ c3=>F [I (B5 (b+1))] c3/\a5 [I (B5 (b+1))] c3<a5 [I b] i) e8))
 (aC P A1j #[Mv Z a0 a1 a2 a3,Sl t m a4] i (fun e9 c4=>∃ (a9:OA) (b0 b1:Nat) (d7:OA) (d8 d9:Nat) (G:Int),e9= .tuple #[Sl a9 b0 b1,Sl d7 d8 d9,I G]/\Br (G != 0) (K (.tuple #[Sl none 0 0,I G]) c4)
 (aC P Tp #[Mv y e k l z,Sl a9 b0 b1] c4 (fun f0 c5=>∃ (u:OA) (n b2:Nat) (H:Int),f0= .tuple #[Sl u n b2,I H]/\Br (H != 0) (K (.tuple #[Sl none 0 0,I H]) c5)
 (∃ (J:LP) (b3:LN),J [I 0] c5/\
 ∀ c j,J [I c] j->Bd (c<(n:Int)) (∃ d2,Ax u d2 c n <| ∃ (b4:ByteArray),j.cell? (d2.add (c.toNat*1))=some (.string b4)/\∃ d3,Ax v d3 c w <| ∃ (b5:ByteArray),j.cell? (d3.add (c.toNat*1))=some (.string b5)/\aC P A8v #[.string b5,.string b4] j (fun f1 f2=>∃ (b6:ByteArray),f1= .string b6/\∃ d4,Ax u d4 c n<|wpH P (aD 9 (Pt (d4.add (c.toNat*1))) (.string b6)) (fun _ c6=>J [I (B5 (c+1))] c6/\b3 [I (B5 (c+1))] c6<b3 [I c] j) f2))
 (K (.tuple #[Sl u n b2,I 0]) j)))))))))))))))
def A7w a b c d e f g i j k l m n o(hvc:A9u prog a b c d e f g i j k l m n o h K):aC prog Ko #[Mv a b c d e,Sl f g i,Sl j k l,Sl m n o] h K:=
 fnk func48 { loops:=[(8,⟨[44],[],[I 0],⟨([13,14,15,16]++Lrg 44 35),[]⟩⟩),(12,⟨[53],[],[I 0],⟨([16]++Lrg 53 25),[]⟩⟩),(24,⟨[99],[],[I 0],⟨([19,20]++Lrg 99 15),[]⟩⟩),(35,⟨[135],[],[I 0],⟨([24,25]++Lrg 135 15),[]⟩⟩)] } [4,11,17] [] hvc
def Zy(P:aE)(a b:ByteArray)(h:aF)(K:VP):Prop:=
 ∃ (c:LP),(aC P Dl #[.string a] h (fun m i=>∃ (e:Bool),m= .bool e/\Br (!e) (c [.bool true] i)
 (aC P Dl #[.string b] i (fun n o=>∃ (f:Bool),n= .bool f/\c [.bool (!f)] o))))/\
 ∀ k d,c [.bool k] d->Br k (K (.tuple #[.string ({ data:=#[] }:ByteArray),I 1]) d)
 (aC P Kk #[.string b,.string a] d (fun p j=>∃ l,p=I l/\Bd (l<0) (K (.tuple #[.string ({ data:=#[] }:ByteArray),I 3]) j)
 (aC P Y8 #[.string a,.string b] j (fun q r=>∃ (g:ByteArray),q= .string g/\K (.tuple #[.string g,I 0]) r))))
def A2k a b(hvc:Zy prog a b h K):aC prog Ix #[.string a,.string b] h K:=
 fnk func128 { cuts:=[(2,⟨[13],[],[.bool false],⟨(Lrg 6 8),[]⟩⟩)] } [] [] hvc
def C0x(P:aE) (h:aF)(K:VP):Prop:=
 aC P Ix #[.string ({ data:=#[51,47,49,48] }:ByteArray),.string ({ data:=#[50,47,53] }:ByteArray)] h (fun d c=>∃ (a:ByteArray) (b:Int),d= .tuple #[.string a,I b]/\Br (b==0) (K (.bool (a.toList==ByteArray.toList ({ data:=#[49,47,51] }:ByteArray))) c)
 (K (.bool false) c))
def B6l (hvc:C0x prog  h K):aC prog A1k #[] h K:=
 fnk func52 an0 [] [] hvc
def Fq(P:aE)(k6:OA)(k7 k8:Nat)(h:aF)(K:VP):Prop:=
 aC P B4e #[Sl k6 k7 k8] h (fun k9 l0=>∃ (d:OA),k9= .pointer d/\aC P It #[.pointer d,I 3] l0 (fun l1 l2=>∃ b5,l1=I b5/\aC P It #[.pointer d,I 4] l2 (fun l3 l4=>∃ b,l3=I b/\aC P A6x #[.pointer d,I (B5 ((1:Int)+b5)),I (B5 ((1:Int)+b))] l4 (fun l5 l6=>∃ i j k,l5=Sl i j k/\aC P Vi #[.pointer d,I (B5 ((1:Int)+b))] l6 (fun l7 l8=>∃ E F b6,l7=Sl E F b6/\wpH P (Instr.makeSlice 75 (I (B5 ((1:Int)+b))) (I (B5 ((1:Int)+b)))) (fun l9 m0=>∃ m g G,l9=Sl m g G/\∃ (x:LP) (J:LN),x [I 0] m0/\
 ∀ e t,x [I e] t->Bd (e<(g:Int)) (aC P Ml #[.pointer d] t (fun m1 m2=>∃ b7 b8 b9 c0 c1 c2 c3 c4,m1=Qv b7 b8 b9 c0 c1 c2 c3 c4/\∃ c5,Ax m c5 e g<|wpH P (aD 81 (Pt (c5.add (e.toNat*4))) (Qv b7 b8 b9 c0 c1 c2 c3 c4)) (fun _ b0=>x [I (B5 (e+1))] b0/\J [I (B5 (e+1))] b0<J [I e] t) m2))
 (aC P Vi #[.pointer d,I (B5 ((1:Int)+b))] t (fun m3 m4=>∃ c6 c7 c8,m3=Sl c6 c7 c8/\aC P A95 #[Sl i j k,Sl c6 c7 c8] m4 (fun m5 m6=>∃ c9 d0 d1,m5=Sl c9 d0 d1/\aC P Dm #[Sl c9 d0 d1] m6 (fun m7 m8=>∃ u v w,m7=Sl u v w/\aC P A1d #[Sl i j k] m8 (fun m9 n0=>∃ (L:Int) (M:Int) (N:OA) (O Q:Nat),m9=Mv L M N O Q/\aC P Dm #[Sl E F b6] n0 (fun n1 n2=>∃ d2 d3 d4,n1=Sl d2 d3 d4/\aC P Dm #[Sl m g G] n2 (fun n3 n4=>∃ d5 d6 d7,n3=Sl d5 d6 d7/\aC P Ko #[Mv L M N O Q,Sl u v w,Sl d2 d3 d4,Sl d5 d6 d7] n4 (fun n5 n6=>∃ (o:OA) (p q:Nat) (R:Int),n5= .tuple #[Sl o p q,I R]/\aC P A1d #[Sl i j k] n6 (fun n7 n8=>∃ (S:Int) (T:Int) (V:OA) (W X:Nat),n7=Mv S T V W X/\aC P Dm #[Sl m g G] n8 (fun n9 o0=>∃ d8 d9 e0,n9=Sl d8 d9 e0/\aC P Ko #[Mv S T V W X,Sl u v w,Sl o p q,Sl d8 d9 e0] o0 (fun o1 o2=>∃ (Z:OA) (a0 a1:Nat) (a2:Int),o1= .tuple #[Sl Z a0 a1,I a2]/\aC P A70 #[Sl o p q] o2 (fun o3 l=>∃ (y:OA) (r a3:Nat) (a4:Bool),o3= .tuple #[Sl y r a3,.bool a4]/\Br (R != 0) (K (.bool false) l)
 (Br (a2 != 0) (K (.bool false) l)
 (Br (!a4) (K (.bool false) l)
 (Br ((r:Int) != (B5 ((1:Int)+b))) (K (.bool false) l)
 (aC P Af #[Sl o p q,Sl Z a0 a1] l (fun o4 b1=>∃ (a5:Bool),o4= .bool a5/\Br (!a5) (K (.bool false) b1)
 (aC P A95 #[Sl i j k,Sl y r a3] b1 (fun o5 o6=>∃ e1 e2 e3,o5=Sl e1 e2 e3/\aC P Dm #[Sl e1 e2 e3] o6 (fun o7 o8=>∃ e4 e5 e6,o7=Sl e4 e5 e6/\aC P Af #[Sl e4 e5 e6,Sl u v w] o8 (fun o9 b2=>∃ (a6:Bool),o9= .bool a6/\Br (!a6) (K (.bool false) b2)
 (wpH P (Instr.makeSlice 75 (I (B5 ((1:Int)+b))) (I (B5 ((1:Int)+b)))) (fun p0 p1=>∃ H s e7,p0=Sl H s e7/\∃ (z:LP) (a7:LN),z [I 0] p1/\
 ∀ a c,z [I a] c->Bd (a<(s:Int)) (∃ e8,Ax m e8 a g <| ∃ e9 f0 f1 f2 f3 f4 f5 f6,Lq c (e8.add (a.toNat*4)) e9 f0 f1 f2 f3 f4 f5 f6 <| ∃ f7,Ax y f7 a r <| ∃ f8 f9 g0 g1 g2 g3 g4 g5,Lq c (f7.add (a.toNat*4)) f8 f9 g0 g1 g2 g3 g4 g5 <| ∃ g6,Ax E g6 a F <| ∃ g7 g8 g9 h0 h1 h2 h3 h4,Lq c (g6.add (a.toNat*4)) g7 g8 g9 h0 h1 h2 h3 h4<|aC P A1f #[Qv f8 f9 g0 g1 g2 g3 g4 g5,Qv g7 g8 g9 h0 h1 h2 h3 h4] c (fun p2 C=>∃ h5 h6 h7 h8 h9 i0 i1 i2,p2=Qv h5 h6 h7 h8 h9 i0 i1 i2/\c.le C/\aC P Qt #[Qv e9 f0 f1 f2 f3 f4 f5 f6,Qv h5 h6 h7 h8 h9 i0 i1 i2] C (fun p3 b3=>∃ i3 i4 i5 i6 i7 i8 i9 j0,p3=Qv i3 i4 i5 i6 i7 i8 i9 j0/\C.le b3/\∃ j1,Ax H j1 a s<|wpH P (aD 81 (Pt (j1.add (a.toNat*4))) (Qv i3 i4 i5 i6 i7 i8 i9 j0)) (fun _ b4=>z [I (B5 (a+1))] b4/\a7 [I (B5 (a+1))] b4<a7 [I a] c) b3)))
 (aC P A72 #[Sl i j k] c (fun p4 p5=>∃ j2 B q1,p4=Sl j2 B q1/\∃ (A:LP) (a8:LN),A [I 0] p5/\
 ∀ f n,A [I f] n->Bd (f<(B:Int)) (∃ j3,Ax j2 j3 f B <| ∃ j4 j5 j6,Hd n (j3.add (f.toNat*1)) j4 j5 j6<|aC P A94 #[Sl j4 j5 j6,Sl H s e7] n (fun p6 p7=>∃ j7 j8 j9 k0 k1 k2 k3 k4,p6=Qv j7 j8 j9 k0 k1 k2 k3 k4/\aC P Kl #[Qv j7 j8 j9 k0 k1 k2 k3 k4] p7 (fun p8 D=>∃ k5,p8=I k5/\Br (k5 != 0) (K (.bool false) D)
 (A [I (B5 (f+1))] D/\a8 [I (B5 (f+1))] D<a8 [I f] n))))
 (aC P A1k #[] n (fun p9 q0=>∃ (a9:Bool),p9= .bool a9/\K (.bool a9) q0))))) b2))))))))))))))))))))))) l8)))))
def Kx a b c(hvc:Fq prog a b c h K):aC prog Da #[Sl a b c] h K:=
 fnk func8 { loops:=[(7,⟨[40],[],[I 0],⟨([9]++Lrg 40 9),[]⟩⟩),(19,⟨[116],[],[I 0],⟨([18]++Lrg 116 21),[]⟩⟩),(24,⟨[140],[],[I 0],⟨([2,20]++Lrg 140 10),[]⟩⟩)] } [] [43,44,45,46] hvc
def C7t(P:aE)(d:OA)(a b:Nat)(h:aF)(K:VP):Prop:=
 (0<=(if (400:Int)<(a:Int) then (400:Int) else (a:Int))/\(if (400:Int)<(a:Int) then (400:Int) else (a:Int))<=(b:Int))/\wpH P (Instr.box 171 (.agg #[.slice (J9 d b 0 1) ((((if (400:Int)<(a:Int) then (400:Int) else (a:Int))).toNat)-0) (b-0),I 0])) (fun e f=>∃ (c:Addr),e=Pt c/\K (Pt c) f) h
def C3b a b c(hvc:C7t prog a b c h K):aC prog B4e #[Sl a b c] h K:=
 fnk func42 an0 [] [] hvc
def C56(P:aE)(f:OA)(g i:Nat)(h:aF)(K:VP):Prop:=
 aC P A71 #[Sl f g i] h (fun j k=>∃ (a:Int) (b:Int) (c:OA) (d e:Nat),j=Mv a b c d e/\K (Mv a b c d e) k)
def B90 a b c(hvc:C56 prog a b c h K):aC prog A1d #[Sl a b c] h K:=
 fnk func49 an0 [2] [] hvc
def C58(P:aE)(a:OA)(b:Int)(h:aF)(K:VP):Prop:=
 ∃ e,a=some e/\∃ f,h.cell? (e.add 1)=some (I f)/\∃ g,a=some g/\∃ s d t,Hd h (g.add 0) s d t<|Bd (f>=(d:Int)) (K (I 0) h)
 (∃ i,a=some i/\∃ j k u,Hd h (i.add 0) j k u <| ∃ l,a=some l/\∃ c,h.cell? (l.add 1)=some (I c)/\∃ m,Ax j m c k <| ∃ n,h.cell? (m.add (c.toNat*1))=some (I n)/\∃ o,a=some o/\∃ p,h.cell? (o.add 1)=some (I p)/\∃ q,a=some q/\wpH P (aD 3 (Pt (q.add 1)) (I (B5 (p+1)))) (fun _ r=>Bd (b=0) False
 (Bd (b=0) False
 (K (I (Int.tmod (B5 ((Int.tmod n b)+b)) b)) r))) h)
def B92 a b(hvc:C58 prog a b h K):aC prog It #[.pointer a,I b] h K:=
 fnk func43 an0 [] [] hvc
def C7s(P:aE)(a:OA)(h:aF)(K:VP):Prop:=
 aC P It #[.pointer a,I 19] h (fun u v=>∃ b,u=I b/\aC P U4 #[I (B5 (b-9))] v (fun w x=>∃ c d e f,w=Zv c d e f/\aC P It #[.pointer a,I 4] x (fun y z=>∃ g,y=I g/\aC P U4 #[I (B5 ((1:Int)+g))] z (fun A B=>∃ i j k l,A=Zv i j k l/\aC P Iu #[Zv c d e f,Zv i j k l] B (fun C D=>∃ m n o p q r s t,C=Qv m n o p q r s t/\K (Qv m n o p q r s t) D)))))
def C3a a(hvc:C7s prog a h K):aC prog A4e #[.pointer a] h K:=
 fnk func116 an0 [2] [43] hvc
def A5b(P:aE)(a:OA)(h:aF)(K:VP):Prop:=
 aC P It #[.pointer a,I 9] h (fun u v=>∃ b,u=I b/\aC P U4 #[I (B5 ((1:Int)+b))] v (fun w x=>∃ c d e f,w=Zv c d e f/\aC P It #[.pointer a,I 4] x (fun y z=>∃ g,y=I g/\aC P U4 #[I (B5 ((1:Int)+g))] z (fun A B=>∃ i j k l,A=Zv i j k l/\aC P Iu #[Zv c d e f,Zv i j k l] B (fun C D=>∃ m n o p q r s t,C=Qv m n o p q r s t/\K (Qv m n o p q r s t) D)))))
def A5a a(hvc:A5b prog a h K):aC prog Ml #[.pointer a] h K:=
 fnk func46 an0 [2] [43] hvc
def C57(P:aE)(x:OA)(y:Int)(h:aF)(K:VP):Prop:=
 ∃ (f:LP) (k:LN),f [N0,I 0] h/\
 ∀ b c d a e,f [.slice b c d,I a] e->Bd (a<y) (aC P A4e #[.pointer x] e (fun z A=>∃ m n o p q r s t,z=Qv m n o p q r s t/\wpH P (Instr.buildSlice 75 1 #[(0,Qv m n o p q r s t)]) (fun B C=>∃ u v w,B=Sl u v w/\wpH P (Builtin.append_ #[75,75] 75 #[Sl b c d,Sl u v w]) (fun D l=>∃ g i j,D=Sl g i j/\f [.slice g i j,I (B5 (a+1))] l/\k [.slice g i j,I (B5 (a+1))] l<k [.slice b c d,I a] e) C) A))
 (K (Sl b c d) e)
def B91 a b(hvc:C57 prog a b h K):aC prog Vi #[.pointer a,I b] h K:=
 fnk func45 { loops:=[(3,⟨[5,6],[],[N0,I 0],⟨(Lrg 5 12),[]⟩⟩)] } [] [116] hvc
def C55(P:aE)(l:OA)(S:Int)(T:Int)(h:aF)(K:VP):Prop:=
 aC P A1l #[I S,I T] h (fun V W=>∃ i d r,V=Sl i d r/\∃ (j:LP) (m:LN),j [I 0] W/\
 ∀ b e,j [I b] e->Bd (b<(d:Int)) (∃ s,Ax i s b d <| ∃ a1 n a2,Hd e (s.add (b.toNat*1)) a1 n a2 <| ∃ (f:LP) (g:LN),f [I 0] e/\
 ∀ a c,f [I a] c->Bd (a<(n:Int)) (∃ k,Ax i k b d<|(∃ t u a3,Hd c (k.add (b.toNat*1)) t u a3<|aC P A4e #[.pointer l] c (fun X Z=>∃ v w x y z A B C,X=Qv v w x y z A B C/\∃ D,Ax t D a u<|wpH P (aD 81 (Pt (D.add (a.toNat*4))) (Qv v w x y z A B C)) (fun _ o=>f [I (B5 (a+1))] o/\g [I (B5 (a+1))] o<g [I a] c) Z))/\(aC P A4e #[.pointer l] c (fun a0 p=>∃ E F G H J L M N,a0=Qv E F G H J L M N/\∃ O Q a4,Hd p (k.add (b.toNat*1)) O Q a4 <| ∃ R,Ax O R a Q<|wpH P (aD 81 (Pt (R.add (a.toNat*4))) (Qv E F G H J L M N)) (fun _ q=>f [I (B5 (a+1))] q/\g [I (B5 (a+1))] q<g [I a] c) p)))
 (j [I (B5 (b+1))] c/\m [I (B5 (b+1))] c<m [I b] e))
 (K (Sl i d r) e))
def B8z a b c(hvc:C55 prog a b c h K):aC prog A6x #[.pointer a,I b,I c] h K:=
 fnk func44 ⟨[(3,⟨[15],[],[I 0],⟨([8,9]++Lrg 15 21),[]⟩⟩),(6,⟨[23],[],[I 0],⟨([9]++Lrg 23 12),[]⟩⟩)],[],[(8,([0,1,2,4,5,3,6,7,8],[]))],[],[(8,[(3,[6])])]⟩ [] [116] hvc
def Sg(P:aE)(l:OA)(c n:Nat)(m:OA)(e o:Nat)(h:aF)(K:VP):Prop:=
 Br ((c:Int) != (e:Int)) (K (.bool false) h)
 (∃ (d:LP) (f:LN),d [I 0] h/\
 ∀ a b,d [I a] b->Bd (a<(c:Int)) (∃ j,Ax l j a c <| ∃ (g:ByteArray),b.cell? (j.add (a.toNat*1))=some (.string g)/\∃ k,Ax m k a e <| ∃ (i:ByteArray),b.cell? (k.add (a.toNat*1))=some (.string i)/\Br (!(g.toList==i.toList)) (K (.bool false) b)
 (d [I (B5 (a+1))] b/\f [I (B5 (a+1))] b<f [I a] b))
 (K (.bool true) b))
def Wz a b c d e f(hvc:Sg prog a b c d e f h K):aC prog Af #[Sl a b c,Sl d e f] h K:=
 fnk func53 { loops:=[(4,⟨[13],[],[I 0],⟨([4,5]++Lrg 13 13),[]⟩⟩)] } [] [] hvc
