/- A part. -/
import Derived.Test.YtmbfcbbkbefgfaaGreatDoorG28
open Go.Proofs.Tryz
set_option linter.all false
open _root_.Go.Instr renaming storeAt->aD
open _root_.Go renaming Program->aE
open _root_.Go.Proofs.YtmbfcbbkbefgfaaGreatDoor renaming FCall->aC,Heap->aF
namespace Go.Proofs.YtmbfcbbkbefgfaaGreatDoor
open Go
set_option maxRecDepth 100000
variable {h:aF} {K:VP}
abbrev Ci:Nat:=121
abbrev Y6:Nat:=216
abbrev Qz:Nat:=212
abbrev Cw:Nat:=119
abbrev Qy:Nat:=48
abbrev Is:Nat:=128
abbrev Qw:Nat:=51
abbrev Oq:Nat:=52
abbrev Di:Nat:=7
abbrev A6r:Nat:=8
abbrev B0e:Nat:=9
abbrev B3w:Nat:=42
abbrev A6o:Nat:=49
abbrev C56:Nat:=60
abbrev Ip:Nat:=43
abbrev A40:Nat:=116
abbrev Lp:Nat:=46
abbrev Qr:Nat:=45
abbrev A6n:Nat:=44
abbrev Dz:Nat:=53
abbrev C54:Nat:=171
def A9k(P:aE)(b:ByteArray)(h:aF)(K:VP):Prop:=
 aC P B3u #[.string ({ data:=#[49] }:ByteArray),.string b] h (fun d e=>∃ (a:ByteArray) (c:Bool),d= .tuple #[.string a,.bool c]/\K (.string a) e)
def A7t a(hvc:A9k prog a h K):aC prog Ci #[.string a] h K:=
 fnk func121 an0 [] [] hvc
def Po(P:aE)(a b:ByteArray)(h:aF)(K:VP):Prop:=
 aC P Vk #[.string b] h (fun w q=>∃ t,w=I t/\Bd (t<0) (aC P A3z #[.string b] q (fun x y=>∃ (e:ByteArray),x= .string e/\aC P A3z #[.string a] y (fun z A=>∃ (f:ByteArray),z= .string f/\aC P Y6 #[.string e,.string f] A (fun B C=>∃ (g:ByteArray),B= .string g/\aC P A3z #[.string g] C (fun D E=>∃ (i:ByteArray),D= .string i/\K (.string i) E)))))
 (aC P Vk #[.string a] q (fun F r=>∃ u,F=I u/\Bd (u<=0) (K (.string ({ data:=#[48] }:ByteArray)) r)
 (aC P A6l #[.string a] r (fun G H=>∃ (d:ByteArray),G= .string d/\aC P Kc #[.string d,.string b] H (fun J s=>∃ v,J=I v/\Bd (v<=0) (K (.string d) s)
 (aC P A0w #[.string a] s (fun L M=>∃ (c:ByteArray),L= .string c/\aC P A3y #[.string b,.string c] M (fun N O=>∃ (j:ByteArray),N= .string j/\aC P Ci #[.string j] O (fun Q R=>∃ (k:ByteArray),Q= .string k/\aC P A3y #[.string a,.string c] R (fun S T=>∃ (l:ByteArray),S= .string l/\aC P Ci #[.string l] T (fun V W=>∃ (m:ByteArray),V= .string m/\aC P Y6 #[.string k,.string m] W (fun X Z=>∃ (n:ByteArray),X= .string n/\aC P Ci #[.string n] Z (fun a0 a1=>∃ (o:ByteArray),a0= .string o/\aC P A8l #[.string c,.string o] a1 (fun a2 a3=>∃ (p:ByteArray),a2= .string p/\K (.string p) a3)))))))))))))))
def Jn a b(hvc:Po prog a b h K):aC prog Y6 #[.string a,.string b] h K:=
 fnk func216 an0 [] [] hvc
def A9j(P:aE)(r:OA)(j u:Nat)(h:aF)(K:VP):Prop:=
 ∃ (e:LP) (k:LN),e [I 0] h/\
 ∀ a d,e [I a] d->Bd (a<(j:Int)) (∃ o,Ax r o a j <| ∃ p g t,Hd d (o.add (a.toNat*1)) p g t <| ∃ (f:LP) (l:LN),f [I 0] d/\
 ∀ b c,f [I b] c->Bd (b<(g:Int)) (∃ q,Ax p q b g <| ∃ (m:ByteArray),c.cell? (q.add (b.toNat*1))=some (.string m)/\aC P Df #[.string m] c (fun s i=>∃ (n:Bool),s= .bool n/\Br (!n) (K (.bool false) i)
 (f [I (B6 (b+1))] i/\l [I (B6 (b+1))] i<l [I b] c)))
 (e [I (B6 (a+1))] c/\k [I (B6 (a+1))] c<k [I a] d))
 (K (.bool true) d)
def A7s a b c(hvc:A9j prog a b c h K):aC prog Qz #[Sl a b c] h K:=
 fnk func212 { loops:=[(2,⟨[9],[],[I 0],⟨([2,4,6]++Lrg 9 15),[]⟩⟩),(5,⟨[15],[],[I 0],⟨([2,6]++Lrg 15 8),[]⟩⟩)] } [] [] hvc
def Pp(P:aE)(i:Int)(e:Int)(w:OA)(x y:Nat)(z:OA)(j A:Nat)(B:OA)(k C:Nat)(l:OA)(d D:Nat)(h:aF)(K:VP):Prop:=
 aC P Tq #[Mv i e w x y] h (fun E q=>∃ (m:Bool),E= .bool m/\Br (!m) (K (I 1) q)
 (wpH P (Instr.buildSlice 314 3 #[(0,Sl z j A),(1,Sl B k C),(2,Sl l d D)]) (fun F G=>∃ r s t,F=Sl r s t/\aC P Qz #[Sl r s t] G (fun H b=>∃ (n:Bool),H= .bool n/\Br (!n) (K (I 1) b)
 (Br ((j:Int) != i) (K (I 4) b)
 (Br ((k:Int) != e) (K (I 4) b)
 (Br ((d:Int) != e) (K (I 4) b)
 (∃ (f:LP) (o:LN),f [I 0] b/\
 ∀ a c,f [I a] c->Bd (a<(d:Int)) (∃ u,Ax l u a d <| ∃ (p:ByteArray),c.cell? (u.add (a.toNat*1))=some (.string p)/\aC P Vk #[.string p] c (fun J g=>∃ v,J=I v/\Bd (v<=0) (K (I 3) g)
 (f [I (B6 (a+1))] g/\o [I (B6 (a+1))] g<o [I a] c)))
 (K (I 0) c))))))) q))
def Tf a b c d e f g i j k l m n o(hvc:Pp prog a b c d e f g i j k l m n o h K):aC prog Cw #[Mv a b c d e,Sl f g i,Sl j k l,Sl m n o] h K:=
 fnk func119 { loops:=[(6,⟨[43],[],[I 0],⟨([8,10]++Lrg 43 8),[]⟩⟩)] } [4] [] hvc
def A9i(P:aE)(p:Int)(f:Int)(q:OA)(r s:Nat)(M:OA)(N d5:Nat)(v:OA)(w O:Nat)(Q:OA)(x d6:Nat)(h:aF)(K:VP):Prop:=
 aC P Cw #[Mv p f q r s,Sl M N d5,Sl v w O,Sl Q x d6] h (fun e0 b7=>∃ L,e0=I L/\Br (L != 0) (K (.tuple #[Sl none 0 0,I L]) b7)
 (aC P Iq #[Mv p f q r s] b7 (fun e1 b8=>∃ (y:Int) (e:Int) (k:OA) (l z:Nat) (A:Int),e1= .tuple #[Mv y e k l z,I A]/\Br (A != 0) (K (.tuple #[Sl none 0 0,I A]) b8)
 (∃ (B:LP) (R:LN),B [I 0] b8/\
 ∀ a o,B [I a] o->Bd (a<(x:Int)) (∃ c7,Ax Q c7 a x <| ∃ (S:ByteArray),o.cell? (c7.add (a.toNat*1))=some (.string S)/\aC P Ci #[.string S] o (fun e2 e3=>∃ (T:ByteArray),e2= .string T/\∃ (C:LP) (V:LN),C [I 0] e3/\
 ∀ d g,C [I d] g->Bd (d<e) (∃ f,Ax k f (B6 ((B6 (a*e))+d)) l <| ∃ (W:ByteArray),g.cell? (f.add ((B6 ((B6 (a*e))+d)).toNat*1))=some (.string W)/\aC P B3t #[.string T,.string W] g (fun e4 b9=>∃ (X:ByteArray),e4= .string X/\g.le b9/\∃ c8,Ax k c8 (B6 ((B6 (a*e))+d)) l<|wpH P (aD 9 (Pt (c8.add ((B6 ((B6 (a*e))+d)).toNat*1))) (.string X)) (fun _ c0=>C [I (B6 (d+1))] c0/\V [I (B6 (d+1))] c0<V [I d] g) b9))
 (B [I (B6 (a+1))] g/\R [I (B6 (a+1))] g<R [I a] o)))
 (aC P A8s #[Mv p f q r s,Mv y e k l z] o (fun e5 c1=>∃ (Z:Int) (a0:Int) (a1:OA) (a2 a3:Nat) (D:Int),e5= .tuple #[Mv Z a0 a1 a2 a3,I D]/\Br (D != 0) (K (.tuple #[Sl none 0 0,I D]) c1)
 (aC P Tt #[Mv p f q r s,Sl v w O] c1 (fun e6 c2=>∃ (t:OA) (m a4:Nat) (E:Int),e6= .tuple #[Sl t m a4,I E]/\Br (E != 0) (K (.tuple #[Sl none 0 0,I E]) c2)
 (∃ (F:LP) (a5:LN),F [I 0] c2/\
 ∀ b i,F [I b] i->Bd (b<(m:Int)) (∃ c9,Ax t c9 b m <| ∃ (a6:ByteArray),i.cell? (c9.add (b.toNat*1))=some (.string a6)/\∃ d0,Ax M d0 b N <| ∃ (a7:ByteArray),i.cell? (d0.add (b.toNat*1))=some (.string a7)/\aC P A3y #[.string a7,.string a6] i (fun e7 e8=>∃ (a8:ByteArray),e7= .string a8/\∃ d1,Ax t d1 b m<|wpH P (aD 9 (Pt (d1.add (b.toNat*1))) (.string a8)) (fun _ c3=>F [I (B6 (b+1))] c3/\a5 [I (B6 (b+1))] c3<a5 [I b] i) e8))
 (aC P A17 #[Mv Z a0 a1 a2 a3,Sl t m a4] i (fun e9 c4=>∃ (a9:OA) (b0 b1:Nat) (d7:OA) (d8 d9:Nat) (G:Int),e9= .tuple #[Sl a9 b0 b1,Sl d7 d8 d9,I G]/\Br (G != 0) (K (.tuple #[Sl none 0 0,I G]) c4)
 (aC P Tt #[Mv y e k l z,Sl a9 b0 b1] c4 (fun f0 c5=>∃ (u:OA) (n b2:Nat) (H:Int),f0= .tuple #[Sl u n b2,I H]/\Br (H != 0) (K (.tuple #[Sl none 0 0,I H]) c5)
 (∃ (J:LP) (b3:LN),J [I 0] c5/\
 ∀ c j,J [I c] j->Bd (c<(n:Int)) (∃ d2,Ax u d2 c n <| ∃ (b4:ByteArray),j.cell? (d2.add (c.toNat*1))=some (.string b4)/\∃ d3,Ax v d3 c w <| ∃ (b5:ByteArray),j.cell? (d3.add (c.toNat*1))=some (.string b5)/\aC P A8l #[.string b5,.string b4] j (fun f1 f2=>∃ (b6:ByteArray),f1= .string b6/\∃ d4,Ax u d4 c n<|wpH P (aD 9 (Pt (d4.add (c.toNat*1))) (.string b6)) (fun _ c6=>J [I (B6 (c+1))] c6/\b3 [I (B6 (c+1))] c6<b3 [I c] j) f2))
 (K (.tuple #[Sl u n b2,I 0]) j)))))))))))))))
def A7r a b c d e f g i j k l m n o(hvc:A9i prog a b c d e f g i j k l m n o h K):aC prog Qy #[Mv a b c d e,Sl f g i,Sl j k l,Sl m n o] h K:=
 fnk func48 { loops:=[(8,⟨[44],[],[I 0],⟨([13,14,15,16]++Lrg 44 35),[]⟩⟩),(12,⟨[53],[],[I 0],⟨([16]++Lrg 53 25),[]⟩⟩),(24,⟨[99],[],[I 0],⟨([19,20]++Lrg 99 15),[]⟩⟩),(35,⟨[135],[],[I 0],⟨([24,25]++Lrg 135 15),[]⟩⟩)] } [4,11,17] [] hvc
def Zr(P:aE)(a b:ByteArray)(h:aF)(K:VP):Prop:=
 ∃ (c:LP),(aC P Df #[.string a] h (fun m i=>∃ (e:Bool),m= .bool e/\Br (!e) (c [.bool true] i)
 (aC P Df #[.string b] i (fun n o=>∃ (f:Bool),n= .bool f/\c [.bool (!f)] o))))/\
 ∀ k d,c [.bool k] d->Br k (K (.tuple #[.string ({ data:=#[] }:ByteArray),I 1]) d)
 (aC P Kc #[.string b,.string a] d (fun p j=>∃ l,p=I l/\Bd (l<0) (K (.tuple #[.string ({ data:=#[] }:ByteArray),I 3]) j)
 (aC P Y6 #[.string a,.string b] j (fun q r=>∃ (g:ByteArray),q= .string g/\K (.tuple #[.string g,I 0]) r))))
def A26 a b(hvc:Zr prog a b h K):aC prog Is #[.string a,.string b] h K:=
 fnk func128 { cuts:=[(2,⟨[13],[],[.bool false],⟨(Lrg 6 8),[]⟩⟩)] } [] [] hvc
def A9g(P:aE)(o:OA)(p q:Nat)(j0:OA)(m l3:Nat)(y:OA)(z j1:Nat)(j2:OA)(j3 l4:Nat)(h:aF)(K:VP):Prop:=
 aC P A6s #[Sl o p q] h (fun j4 j5=>∃ j f v,j4=Sl j f v/\∃ (r:LP) (A:LN),r [I 0] j5/\
 ∀ a l,r [I a] l->Bd (a<(f:Int)) (∃ T,Ax j T a f <| ∃ k8 C k9,Hd l (T.add (a.toNat*1)) k8 C k9 <| ∃ (s:LP) (B:LN),s [I 0] l/\
 ∀ e d,s [I e] d->Bd (e<(C:Int)) (∃ V,Ax j V a f <| ∃ W X l0,Hd d (V.add (a.toNat*1)) W X l0 <| ∃ Z,Ax j Z a f <| ∃ a0 a1 l1,Hd d (Z.add (a.toNat*1)) a0 a1 l1 <| ∃ a2,Ax a0 a2 e a1 <| ∃ a3 a4 a5 a6 a7 a8 a9 b0,Lq d (a2.add (e.toNat*4)) a3 a4 a5 a6 a7 a8 a9 b0 <| ∃ b1,Ax j2 b1 a j3 <| ∃ b2 b3 b4 b5 b6 b7 b8 b9,Lq d (b1.add (a.toNat*4)) b2 b3 b4 b5 b6 b7 b8 b9<|aC P A0z #[Qv a3 a4 a5 a6 a7 a8 a9 b0,Qv b2 b3 b4 b5 b6 b7 b8 b9] d (fun j6 L=>∃ c0 c1 c2 c3 c4 c5 c6 c7,j6=Qv c0 c1 c2 c3 c4 c5 c6 c7/\d.le L/\∃ c8,Ax W c8 e X<|wpH P (aD 81 (Pt (c8.add (e.toNat*4))) (Qv c0 c1 c2 c3 c4 c5 c6 c7)) (fun _ M=>s [I (B6 (e+1))] M/\B [I (B6 (e+1))] M<B [I e] d) L))
 (r [I (B6 (a+1))] d/\A [I (B6 (a+1))] d<A [I a] l))
 (wpH P (Instr.makeSlice 75 (I (m:Int)) (I (m:Int))) (fun j7 j8=>∃ w x c9,j7=Sl w x c9/\aC P A42 #[Sl o p q,Sl y z j1] j8 (fun j9 k0=>∃ d0 d1 l2,j9=Sl d0 d1 l2/\∃ (t:LP) (D:LN),t [I 0] k0/\
 ∀ b g,t [I b] g->Bd (b<(m:Int)) (∃ d2,Ax j0 d2 b m <| ∃ d3 d4 d5 d6 d7 d8 d9 e0,Lq g (d2.add (b.toNat*4)) d3 d4 d5 d6 d7 d8 d9 e0 <| ∃ e1,Ax d0 e1 b d1 <| ∃ e2 e3 e4 e5 e6 e7 e8 e9,Lq g (e1.add (b.toNat*4)) e2 e3 e4 e5 e6 e7 e8 e9<|aC P A0x #[Qv d3 d4 d5 d6 d7 d8 d9 e0,Qv e2 e3 e4 e5 e6 e7 e8 e9] g (fun k1 N=>∃ f0 f1 f2 f3 f4 f5 f6 f7,k1=Qv f0 f1 f2 f3 f4 f5 f6 f7/\g.le N/\∃ f8,Ax w f8 b x<|wpH P (aD 81 (Pt (f8.add (b.toNat*4))) (Qv f0 f1 f2 f3 f4 f5 f6 f7)) (fun _ O=>t [I (B6 (b+1))] O/\D [I (B6 (b+1))] O<D [I b] g) N))
 (aC P Tu #[Sl o p q,Sl j f v] g (fun k2 k3=>∃ f9 g0 g1,k2=Sl f9 g0 g1/\aC P Ls #[Sl f9 g0 g1,Sl w x c9] k3 (fun k4 Q=>∃ (E:OA) (F G:Nat) (H:Bool),k4= .tuple #[Sl E F G,.bool H]/\Br (!H) (K (.tuple #[Sl none 0 0,.bool false]) Q)
 (aC P A42 #[Sl j f v,Sl E F G] Q (fun k5 k6=>∃ n k g2,k5=Sl n k g2/\∃ (u:LP) (J:LN),u [I 0] k6/\
 ∀ c i,u [I c] i->Bd (c<(k:Int)) (∃ g3,Ax n g3 c k <| ∃ g4 g5 g6 g7 g8 g9 h0 h1,Lq i (g3.add (c.toNat*4)) g4 g5 g6 g7 g8 g9 h0 h1 <| ∃ h2,Ax y h2 c z <| ∃ h3 h4 h5 h6 h7 h8 h9 i0,Lq i (h2.add (c.toNat*4)) h3 h4 h5 h6 h7 h8 h9 i0<|aC P Qt #[Qv g4 g5 g6 g7 g8 g9 h0 h1,Qv h3 h4 h5 h6 h7 h8 h9 i0] i (fun k7 R=>∃ i1 i2 i3 i4 i5 i6 i7 i8,k7=Qv i1 i2 i3 i4 i5 i6 i7 i8/\i.le R/\∃ i9,Ax n i9 c k<|wpH P (aD 81 (Pt (i9.add (c.toNat*4))) (Qv i1 i2 i3 i4 i5 i6 i7 i8)) (fun _ S=>u [I (B6 (c+1))] S/\J [I (B6 (c+1))] S<J [I c] i) R))
 (K (.tuple #[Sl n k g2,.bool true]) i)))))))) l))
def A7p a b c d e f g i j k l m(hvc:A9g prog a b c d e f g i j k l m h K):aC prog Qw #[Sl a b c,Sl d e f,Sl g i j,Sl k l m] h K:=
 fnk func51 { loops:=[(3,⟨[24],[],[I 0],⟨([11,12]++Lrg 24 31),[]⟩⟩),(6,⟨[32],[],[I 0],⟨([12]++Lrg 32 22),[]⟩⟩),(14,⟨[63],[],[I 0],⟨([15]++Lrg 63 16),[]⟩⟩),(23,⟨[94],[],[I 0],⟨([19]++Lrg 94 16),[]⟩⟩)] } [] [] hvc
def C0d(P:aE) (h:aF)(K:VP):Prop:=
 aC P Is #[.string ({ data:=#[51,47,49,48] }:ByteArray),.string ({ data:=#[50,47,53] }:ByteArray)] h (fun d c=>∃ (a:ByteArray) (b:Int),d= .tuple #[.string a,I b]/\Br (b==0) (K (.bool (a.toList==ByteArray.toList ({ data:=#[49,47,51] }:ByteArray))) c)
 (K (.bool false) c))
def B63 (hvc:C0d prog  h K):aC prog Oq #[] h K:=
 fnk func52 an0 [] [] hvc
def Hl(P:aE)(e3:OA)(e4 e5:Nat)(e6 e7:Bool)(h:aF)(K:VP):Prop:=
 aC P B3w #[Sl e3 e4 e5] h (fun e8 e9=>∃ (a:OA),e8= .pointer a/\aC P Ip #[.pointer a,I 3] e9 (fun f0 f1=>∃ b,f0=I b/\aC P Ip #[.pointer a,I 4] f1 (fun f2 f3=>∃ d,f2=I d/\aC P A6n #[.pointer a,I (B6 ((1:Int)+b)),I (B6 ((1:Int)+d))] f3 (fun f4 f5=>∃ e f m,f4=Sl e f m/\aC P Qr #[.pointer a,I (B6 ((1:Int)+d))] f5 (fun f6 f7=>∃ v w x,f6=Sl v w x/\wpH P (Instr.makeSlice 75 (I (B6 ((1:Int)+d))) (I (B6 ((1:Int)+d)))) (fun f8 f9=>∃ n i y,f8=Sl n i y/\∃ (p:LP) (A:LN),p [I 0] f9/\
 ∀ c o,p [I c] o->Bd (c<(i:Int)) (aC P Lp #[.pointer a] o (fun g0 g1=>∃ W X Z a0 a1 a2 a3 a4,g0=Qv W X Z a0 a1 a2 a3 a4/\∃ a5,Ax n a5 c i<|wpH P (aD 81 (Pt (a5.add (c.toNat*4))) (Qv W X Z a0 a1 a2 a3 a4)) (fun _ S=>p [I (B6 (c+1))] S/\A [I (B6 (c+1))] S<A [I c] o) g1))
 (aC P Qr #[.pointer a,I (B6 ((1:Int)+b))] o (fun g2 T=>∃ a6 a7 a8,g2=Sl a6 a7 a8/\∃ (q:LP),(Br (!e7) (aC P Qr #[.pointer a,I (B6 ((1:Int)+d))] T (fun g3 g4=>∃ a9 b0 b1,g3=Sl a9 b0 b1/\aC P A42 #[Sl e f m,Sl a9 b0 b1] g4 (fun g5 g6=>∃ b2 b3 b4,g5=Sl b2 b3 b4/\q [.slice b2 b3 b4] g6)))
 (q [.slice a6 a7 a8] T))/\
 ∀ j k z g,q [.slice j k z] g->∃ (l:LP),(Br e6 (Bd ((B6 ((1:Int)+b))>1) (∃ b5,Ax e b5 (0:Int) f <| ∃ b6 b7 b8,Hd g (b5.add (((0:Int)).toNat*1)) b6 b7 b8 <| ∃ b9,Ax j b9 (0:Int) k <| ∃ c0 c1 c2 c3 c4 c5 c6 c7,Lq g (b9.add (((0:Int)).toNat*4)) c0 c1 c2 c3 c4 c5 c6 c7 <| ∃ c8,Ax e c8 (B6 ((B6 ((1:Int)+b))-1)) f<|wpH P (aD 75 (Pt (c8.add ((B6 ((B6 ((1:Int)+b))-1)).toNat*1))) (.slice b6 b7 b8)) (fun _ g7=>∃ c9,Ax j c9 (B6 ((B6 ((1:Int)+b))-1)) k<|wpH P (aD 81 (Pt (c9.add ((B6 ((B6 ((1:Int)+b))-1)).toNat*4))) (Qv c0 c1 c2 c3 c4 c5 c6 c7)) (fun _ g8=>l [] g8) g7) g)
 (l [] g))
 (l [] g))/\
 ∀ d0,l [] d0->aC P A6o #[Sl e f m] d0 (fun g9 h0=>∃ (B:Int) (C:Int) (D:OA) (E F:Nat),g9=Mv B C D E F/\aC P Gm #[Sl j k z] h0 (fun h1 h2=>∃ d1 d2 d3,h1=Sl d1 d2 d3/\aC P Gm #[Sl v w x] h2 (fun h3 h4=>∃ d4 d5 d6,h3=Sl d4 d5 d6/\aC P Gm #[Sl n i y] h4 (fun h5 h6=>∃ d7 d8 d9,h5=Sl d7 d8 d9/\aC P Qy #[Mv B C D E F,Sl d1 d2 d3,Sl d4 d5 d6,Sl d7 d8 d9] h6 (fun h7 h8=>∃ (G:OA) (r H:Nat) (s:Int),h7= .tuple #[Sl G r H,I s]/\aC P Qw #[Sl e f m,Sl j k z,Sl v w x,Sl n i y] h8 (fun h9 V=>∃ (J:OA) (L M:Nat) (N:Bool),h9= .tuple #[Sl J L M,.bool N]/\Br (!N) (aC P Oq #[] V (fun i0 t=>∃ (O:Bool),i0= .bool O/\Br O (Br (s==8) (K (.bool ((r:Int)==0)) t)
 (K (.bool false) t))
 (K (.bool false) t)))
 (aC P Oq #[] V (fun i1 u=>∃ (Q:Bool),i1= .bool Q/\Br Q (Br (s==0) (aC P Gm #[Sl J L M] u (fun i2 i3=>∃ e0 e1 e2,i2=Sl e0 e1 e2/\aC P Dz #[Sl G r H,Sl e0 e1 e2] i3 (fun i4 i5=>∃ (R:Bool),i4= .bool R/\K (.bool R) i5)))
 (K (.bool false) u))
 (K (.bool false) u)))))))))))) f7)))))
def Me a b c d e(hvc:Hl prog a b c d e h K):aC prog Di #[Sl a b c,.bool d,.bool e] h K:=
 fnk func7 ⟨[(7,⟨[38],[],[I 0],⟨([13]++Lrg 38 9),[]⟩⟩)],[(14,⟨[14],[],[N0],⟨[14,50,51,52,53,54,55,56],[]⟩⟩),(16,⟨[],[],[],⟨(Lrg 57 19),[]⟩⟩)],[],[],[]⟩ [] [43,44,45,46] hvc
def C76(P:aE)(d:OA)(a b:Nat)(h:aF)(K:VP):Prop:=
 (0<=(if (400:Int)<(a:Int) then (400:Int) else (a:Int))/\(if (400:Int)<(a:Int) then (400:Int) else (a:Int))<=(b:Int))/\wpH P (Instr.box 171 (.agg #[.slice (K5 d b 0 1) ((((if (400:Int)<(a:Int) then (400:Int) else (a:Int))).toNat)-0) (b-0),I 0])) (fun e f=>∃ (c:Addr),e=Pt c/\K (Pt c) f) h
def C2o a b c(hvc:C76 prog a b c h K):aC prog B3w #[Sl a b c] h K:=
 fnk func42 an0 [] [] hvc
def C4j(P:aE)(f:OA)(g i:Nat)(h:aF)(K:VP):Prop:=
 aC P A6t #[Sl f g i] h (fun j k=>∃ (a:Int) (b:Int) (c:OA) (d e:Nat),j=Mv a b c d e/\K (Mv a b c d e) k)
def B8i a b c(hvc:C4j prog a b c h K):aC prog A6o #[Sl a b c] h K:=
 fnk func49 an0 [2] [] hvc
def C4l(P:aE)(a:OA)(b:Int)(h:aF)(K:VP):Prop:=
 ∃ e,a=some e/\∃ f,h.cell? (e.add 1)=some (I f)/\∃ g,a=some g/\∃ s d t,Hd h (g.add 0) s d t<|Bd (f>=(d:Int)) (K (I 0) h)
 (∃ i,a=some i/\∃ j k u,Hd h (i.add 0) j k u <| ∃ l,a=some l/\∃ c,h.cell? (l.add 1)=some (I c)/\∃ m,Ax j m c k <| ∃ n,h.cell? (m.add (c.toNat*1))=some (I n)/\∃ o,a=some o/\∃ p,h.cell? (o.add 1)=some (I p)/\∃ q,a=some q/\wpH P (aD 3 (Pt (q.add 1)) (I (B6 (p+1)))) (fun _ r=>Bd (b=0) False
 (Bd (b=0) False
 (K (I (Int.tmod (B6 ((Int.tmod n b)+b)) b)) r))) h)
def B8k a b(hvc:C4l prog a b h K):aC prog Ip #[.pointer a,I b] h K:=
 fnk func43 an0 [] [] hvc
def C75(P:aE)(a:OA)(h:aF)(K:VP):Prop:=
 aC P Ip #[.pointer a,I 19] h (fun u v=>∃ b,u=I b/\aC P T9 #[I (B6 (b-9))] v (fun w x=>∃ c d e f,w=Zv c d e f/\aC P Ip #[.pointer a,I 4] x (fun y z=>∃ g,y=I g/\aC P T9 #[I (B6 ((1:Int)+g))] z (fun A B=>∃ i j k l,A=Zv i j k l/\aC P Lr #[Zv c d e f,Zv i j k l] B (fun C D=>∃ m n o p q r s t,C=Qv m n o p q r s t/\K (Qv m n o p q r s t) D)))))
def C2n a(hvc:C75 prog a h K):aC prog A40 #[.pointer a] h K:=
 fnk func116 an0 [2] [43] hvc
def A4y(P:aE)(a:OA)(h:aF)(K:VP):Prop:=
 aC P Ip #[.pointer a,I 9] h (fun u v=>∃ b,u=I b/\aC P T9 #[I (B6 ((1:Int)+b))] v (fun w x=>∃ c d e f,w=Zv c d e f/\aC P Ip #[.pointer a,I 4] x (fun y z=>∃ g,y=I g/\aC P T9 #[I (B6 ((1:Int)+g))] z (fun A B=>∃ i j k l,A=Zv i j k l/\aC P Lr #[Zv c d e f,Zv i j k l] B (fun C D=>∃ m n o p q r s t,C=Qv m n o p q r s t/\K (Qv m n o p q r s t) D)))))
def A4x a(hvc:A4y prog a h K):aC prog Lp #[.pointer a] h K:=
 fnk func46 an0 [2] [43] hvc
def C4k(P:aE)(x:OA)(y:Int)(h:aF)(K:VP):Prop:=
 ∃ (f:LP) (k:LN),f [N0,I 0] h/\
 ∀ b c d a e,f [.slice b c d,I a] e->Bd (a<y) (aC P A40 #[.pointer x] e (fun z A=>∃ m n o p q r s t,z=Qv m n o p q r s t/\wpH P (Instr.buildSlice 75 1 #[(0,Qv m n o p q r s t)]) (fun B C=>∃ u v w,B=Sl u v w/\wpH P (Builtin.append_ #[75,75] 75 #[Sl b c d,Sl u v w]) (fun D l=>∃ g i j,D=Sl g i j/\f [.slice g i j,I (B6 (a+1))] l/\k [.slice g i j,I (B6 (a+1))] l<k [.slice b c d,I a] e) C) A))
 (K (Sl b c d) e)
def B8j a b(hvc:C4k prog a b h K):aC prog Qr #[.pointer a,I b] h K:=
 fnk func45 { loops:=[(3,⟨[5,6],[],[N0,I 0],⟨(Lrg 5 12),[]⟩⟩)] } [] [116] hvc
def C4i(P:aE)(l:OA)(S:Int)(T:Int)(h:aF)(K:VP):Prop:=
 aC P Ot #[I S,I T] h (fun V W=>∃ i d r,V=Sl i d r/\∃ (j:LP) (m:LN),j [I 0] W/\
 ∀ b e,j [I b] e->Bd (b<(d:Int)) (∃ s,Ax i s b d <| ∃ a1 n a2,Hd e (s.add (b.toNat*1)) a1 n a2 <| ∃ (f:LP) (g:LN),f [I 0] e/\
 ∀ a c,f [I a] c->Bd (a<(n:Int)) (∃ k,Ax i k b d<|(∃ t u a3,Hd c (k.add (b.toNat*1)) t u a3<|aC P A40 #[.pointer l] c (fun X Z=>∃ v w x y z A B C,X=Qv v w x y z A B C/\∃ D,Ax t D a u<|wpH P (aD 81 (Pt (D.add (a.toNat*4))) (Qv v w x y z A B C)) (fun _ o=>f [I (B6 (a+1))] o/\g [I (B6 (a+1))] o<g [I a] c) Z))/\(aC P A40 #[.pointer l] c (fun a0 p=>∃ E F G H J L M N,a0=Qv E F G H J L M N/\∃ O Q a4,Hd p (k.add (b.toNat*1)) O Q a4 <| ∃ R,Ax O R a Q<|wpH P (aD 81 (Pt (R.add (a.toNat*4))) (Qv E F G H J L M N)) (fun _ q=>f [I (B6 (a+1))] q/\g [I (B6 (a+1))] q<g [I a] c) p)))
 (j [I (B6 (b+1))] c/\m [I (B6 (b+1))] c<m [I b] e))
 (K (Sl i d r) e))
def B8h a b c(hvc:C4i prog a b c h K):aC prog A6n #[.pointer a,I b,I c] h K:=
 fnk func44 ⟨[(3,⟨[15],[],[I 0],⟨([8,9]++Lrg 15 21),[]⟩⟩),(6,⟨[23],[],[I 0],⟨([9]++Lrg 23 12),[]⟩⟩)],[],[(8,([0,1,2,4,5,3,6,7,8],[]))],[],[(8,[(3,[6])])]⟩ [] [116] hvc
def So(P:aE)(l:OA)(c n:Nat)(m:OA)(e o:Nat)(h:aF)(K:VP):Prop:=
 Br ((c:Int) != (e:Int)) (K (.bool false) h)
 (∃ (d:LP) (f:LN),d [I 0] h/\
 ∀ a b,d [I a] b->Bd (a<(c:Int)) (∃ j,Ax l j a c <| ∃ (g:ByteArray),b.cell? (j.add (a.toNat*1))=some (.string g)/\∃ k,Ax m k a e <| ∃ (i:ByteArray),b.cell? (k.add (a.toNat*1))=some (.string i)/\Br (!(g.toList==i.toList)) (K (.bool false) b)
 (d [I (B6 (a+1))] b/\f [I (B6 (a+1))] b<f [I a] b))
 (K (.bool true) b))
def Wy a b c d e f(hvc:So prog a b c d e f h K):aC prog Dz #[Sl a b c,Sl d e f] h K:=
 fnk func53 { loops:=[(4,⟨[13],[],[I 0],⟨([4,5]++Lrg 13 13),[]⟩⟩)] } [] [] hvc
