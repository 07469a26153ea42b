/- A part. -/
import Derived.Test.YtmbfcbbkbefgfaaGreatDoorG28
open Go.Proofs.Tryz
set_option linter.all false
open _root_.Go.Builtin renaming append_->aF
open _root_.Go.Instr renaming storeAt->aD
open _root_.Go renaming Program->aE
open _root_.Go.Proofs.YtmbfcbbkbefgfaaGreatDoor renaming FCall->aC,Heap->aG
namespace Go.Proofs.YtmbfcbbkbefgfaaGreatDoor
open Go
set_option maxRecDepth 100000
variable {h:aG} {K:VP}
abbrev Ce:Nat:=121
abbrev X9:Nat:=216
abbrev Qy:Nat:=212
abbrev Ct:Nat:=119
abbrev Qx:Nat:=48
abbrev In:Nat:=128
abbrev Qu:Nat:=51
abbrev Gk:Nat:=52
abbrev A8u:Nat:=7
abbrev A6t:Nat:=8
abbrev Eu:Nat:=9
abbrev C66:Nat:=42
abbrev C5e:Nat:=49
abbrev Tp:Nat:=60
abbrev C5g:Nat:=43
abbrev C65:Nat:=116
abbrev C1d:Nat:=46
abbrev C5f:Nat:=45
abbrev C5d:Nat:=44
abbrev Dv:Nat:=53
abbrev C4t:Nat:=171
def A9m(P:aE)(b:ByteArray)(h:aG)(K:VP):Prop:=
 aC P B3r #[.string ({ data:=#[49] }:ByteArray),.string b] h (fun d e=>∃ (a:ByteArray) (c:Bool),d= .tuple #[.string a,.bool c]/\K (.string a) e)
def A7r a(hvc:A9m prog a h K):aC prog Ce #[.string a] h K:=
 fnk func121 an0 [] [] hvc
def Pn(P:aE)(a b:ByteArray)(h:aG)(K:VP):Prop:=
 aC P Vl #[.string b] h (fun w q=>∃ t,w=I t/\Bd (t<0) (aC P A49 #[.string b] q (fun x y=>∃ (e:ByteArray),x= .string e/\aC P A49 #[.string a] y (fun z A=>∃ (f:ByteArray),z= .string f/\aC P X9 #[.string e,.string f] A (fun B C=>∃ (g:ByteArray),B= .string g/\aC P A49 #[.string g] C (fun D E=>∃ (i:ByteArray),D= .string i/\K (.string i) E)))))
 (aC P Vl #[.string a] q (fun F r=>∃ u,F=I u/\Bd (u<=0) (K (.string ({ data:=#[48] }:ByteArray)) r)
 (aC P A6q #[.string a] r (fun G H=>∃ (d:ByteArray),G= .string d/\aC P Jy #[.string d,.string b] H (fun J s=>∃ v,J=I v/\Bd (v<=0) (K (.string d) s)
 (aC P A17 #[.string a] s (fun L M=>∃ (c:ByteArray),L= .string c/\aC P A48 #[.string b,.string c] M (fun N O=>∃ (j:ByteArray),N= .string j/\aC P Ce #[.string j] O (fun Q R=>∃ (k:ByteArray),Q= .string k/\aC P A48 #[.string a,.string c] R (fun S T=>∃ (l:ByteArray),S= .string l/\aC P Ce #[.string l] T (fun V W=>∃ (m:ByteArray),V= .string m/\aC P X9 #[.string k,.string m] W (fun X Z=>∃ (n:ByteArray),X= .string n/\aC P Ce #[.string n] Z (fun a0 a1=>∃ (o:ByteArray),a0= .string o/\aC P A8m #[.string c,.string o] a1 (fun a2 a3=>∃ (p:ByteArray),a2= .string p/\K (.string p) a3)))))))))))))))
def Jj a b(hvc:Pn prog a b h K):aC prog X9 #[.string a,.string b] h K:=
 fnk func216 an0 [] [] hvc
def A9l(P:aE)(r:OA)(j u:Nat)(h:aG)(K:VP):Prop:=
 ∃ (e:LP) (k:LN),e [I 0] h/\
 ∀ a d,e [I a] d->Bd (a<(j:Int)) (∃ o,Ax r o a j <| ∃ p g t,Hd d (o.add (a.toNat*1)) p g t <| ∃ (f:LP) (l:LN),f [I 0] d/\
 ∀ b c,f [I b] c->Bd (b<(g:Int)) (∃ q,Ax p q b g <| ∃ (m:ByteArray),c.cell? (q.add (b.toNat*1))=some (.string m)/\aC P Dd #[.string m] c (fun s i=>∃ (n:Bool),s= .bool n/\Br (!n) (K (.bool false) i)
 (f [I (B4 (b+1))] i/\l [I (B4 (b+1))] i<l [I b] c)))
 (e [I (B4 (a+1))] c/\k [I (B4 (a+1))] c<k [I a] d))
 (K (.bool true) d)
def A7q a b c(hvc:A9l prog a b c h K):aC prog Qy #[Sl a b c] h K:=
 fnk func212 { loops:=[(2,⟨[9],[],[I 0],⟨([2,4,6]++Lrg 9 15),[]⟩⟩),(5,⟨[15],[],[I 0],⟨([2,6]++Lrg 15 8),[]⟩⟩)] } [] [] hvc
def Po(P:aE)(i:Int)(e:Int)(w:OA)(x y:Nat)(z:OA)(j A:Nat)(B:OA)(k C:Nat)(l:OA)(d D:Nat)(h:aG)(K:VP):Prop:=
 aC P Tq #[Mv i e w x y] h (fun E q=>∃ (m:Bool),E= .bool m/\Br (!m) (K (I 1) q)
 (wpH P (Instr.buildSlice 314 3 #[(0,Sl z j A),(1,Sl B k C),(2,Sl l d D)]) (fun F G=>∃ r s t,F=Sl r s t/\aC P Qy #[Sl r s t] G (fun H b=>∃ (n:Bool),H= .bool n/\Br (!n) (K (I 1) b)
 (Br ((j:Int) != i) (K (I 4) b)
 (Br ((k:Int) != e) (K (I 4) b)
 (Br ((d:Int) != e) (K (I 4) b)
 (∃ (f:LP) (o:LN),f [I 0] b/\
 ∀ a c,f [I a] c->Bd (a<(d:Int)) (∃ u,Ax l u a d <| ∃ (p:ByteArray),c.cell? (u.add (a.toNat*1))=some (.string p)/\aC P Vl #[.string p] c (fun J g=>∃ v,J=I v/\Bd (v<=0) (K (I 3) g)
 (f [I (B4 (a+1))] g/\o [I (B4 (a+1))] g<o [I a] c)))
 (K (I 0) c))))))) q))
def Tf a b c d e f g i j k l m n o(hvc:Po prog a b c d e f g i j k l m n o h K):aC prog Ct #[Mv a b c d e,Sl f g i,Sl j k l,Sl m n o] h K:=
 fnk func119 { loops:=[(6,⟨[43],[],[I 0],⟨([8,10]++Lrg 43 8),[]⟩⟩)] } [4] [] hvc
def A9k(P:aE)(p:Int)(f:Int)(q:OA)(r s:Nat)(M:OA)(N d5:Nat)(v:OA)(w O:Nat)(Q:OA)(x d6:Nat)(h:aG)(K:VP):Prop:=
 aC P Ct #[Mv p f q r s,Sl M N d5,Sl v w O,Sl Q x d6] h (fun e0 b7=>∃ L,e0=I L/\Br (L != 0) (K (.tuple #[Sl none 0 0,I L]) b7)
 (aC P Il #[Mv p f q r s] b7 (fun e1 b8=>∃ (y:Int) (e:Int) (k:OA) (l z:Nat) (A:Int),e1= .tuple #[Mv y e k l z,I A]/\Br (A != 0) (K (.tuple #[Sl none 0 0,I A]) b8)
 (∃ (B:LP) (R:LN),B [I 0] b8/\
 ∀ a o,B [I a] o->Bd (a<(x:Int)) (∃ c7,Ax Q c7 a x <| ∃ (S:ByteArray),o.cell? (c7.add (a.toNat*1))=some (.string S)/\aC P Ce #[.string S] o (fun e2 e3=>∃ (T:ByteArray),e2= .string T/\∃ (C:LP) (V:LN),C [I 0] e3/\
 ∀ d g,C [I d] g->Bd (d<e) (∃ f,Ax k f (B4 ((B4 (a*e))+d)) l <| ∃ (W:ByteArray),g.cell? (f.add ((B4 ((B4 (a*e))+d)).toNat*1))=some (.string W)/\aC P B3q #[.string T,.string W] g (fun e4 b9=>∃ (X:ByteArray),e4= .string X/\g.le b9/\∃ c8,Ax k c8 (B4 ((B4 (a*e))+d)) l<|wpH P (aD 9 (Pt (c8.add ((B4 ((B4 (a*e))+d)).toNat*1))) (.string X)) (fun _ c0=>C [I (B4 (d+1))] c0/\V [I (B4 (d+1))] c0<V [I d] g) b9))
 (B [I (B4 (a+1))] g/\R [I (B4 (a+1))] g<R [I a] o)))
 (aC P A8t #[Mv p f q r s,Mv y e k l z] o (fun e5 c1=>∃ (Z:Int) (a0:Int) (a1:OA) (a2 a3:Nat) (D:Int),e5= .tuple #[Mv Z a0 a1 a2 a3,I D]/\Br (D != 0) (K (.tuple #[Sl none 0 0,I D]) c1)
 (aC P Tt #[Mv p f q r s,Sl v w O] c1 (fun e6 c2=>∃ (t:OA) (m a4:Nat) (E:Int),e6= .tuple #[Sl t m a4,I E]/\Br (E != 0) (K (.tuple #[Sl none 0 0,I E]) c2)
 (∃ (F:LP) (a5:LN),F [I 0] c2/\
 ∀ b i,F [I b] i->Bd (b<(m:Int)) (∃ c9,Ax t c9 b m <| ∃ (a6:ByteArray),i.cell? (c9.add (b.toNat*1))=some (.string a6)/\∃ d0,Ax M d0 b N <| ∃ (a7:ByteArray),i.cell? (d0.add (b.toNat*1))=some (.string a7)/\aC P A48 #[.string a7,.string a6] i (fun e7 e8=>∃ (a8:ByteArray),e7= .string a8/\∃ d1,Ax t d1 b m<|wpH P (aD 9 (Pt (d1.add (b.toNat*1))) (.string a8)) (fun _ c3=>F [I (B4 (b+1))] c3/\a5 [I (B4 (b+1))] c3<a5 [I b] i) e8))
 (aC P A1f #[Mv Z a0 a1 a2 a3,Sl t m a4] i (fun e9 c4=>∃ (a9:OA) (b0 b1:Nat) (d7:OA) (d8 d9:Nat) (G:Int),e9= .tuple #[Sl a9 b0 b1,Sl d7 d8 d9,I G]/\Br (G != 0) (K (.tuple #[Sl none 0 0,I G]) c4)
 (aC P Tt #[Mv y e k l z,Sl a9 b0 b1] c4 (fun f0 c5=>∃ (u:OA) (n b2:Nat) (H:Int),f0= .tuple #[Sl u n b2,I H]/\Br (H != 0) (K (.tuple #[Sl none 0 0,I H]) c5)
 (∃ (J:LP) (b3:LN),J [I 0] c5/\
 ∀ c j,J [I c] j->Bd (c<(n:Int)) (∃ d2,Ax u d2 c n <| ∃ (b4:ByteArray),j.cell? (d2.add (c.toNat*1))=some (.string b4)/\∃ d3,Ax v d3 c w <| ∃ (b5:ByteArray),j.cell? (d3.add (c.toNat*1))=some (.string b5)/\aC P A8m #[.string b5,.string b4] j (fun f1 f2=>∃ (b6:ByteArray),f1= .string b6/\∃ d4,Ax u d4 c n<|wpH P (aD 9 (Pt (d4.add (c.toNat*1))) (.string b6)) (fun _ c6=>J [I (B4 (c+1))] c6/\b3 [I (B4 (c+1))] c6<b3 [I c] j) f2))
 (K (.tuple #[Sl u n b2,I 0]) j)))))))))))))))
def A7p a b c d e f g i j k l m n o(hvc:A9k prog a b c d e f g i j k l m n o h K):aC prog Qx #[Mv a b c d e,Sl f g i,Sl j k l,Sl m n o] h K:=
 fnk func48 { loops:=[(8,⟨[44],[],[I 0],⟨([13,14,15,16]++Lrg 44 35),[]⟩⟩),(12,⟨[53],[],[I 0],⟨([16]++Lrg 53 25),[]⟩⟩),(24,⟨[99],[],[I 0],⟨([19,20]++Lrg 99 15),[]⟩⟩),(35,⟨[135],[],[I 0],⟨([24,25]++Lrg 135 15),[]⟩⟩)] } [4,11,17] [] hvc
def Zw(P:aE)(a b:ByteArray)(h:aG)(K:VP):Prop:=
 ∃ (c:LP),(aC P Dd #[.string a] h (fun m i=>∃ (e:Bool),m= .bool e/\Br (!e) (c [.bool true] i)
 (aC P Dd #[.string b] i (fun n o=>∃ (f:Bool),n= .bool f/\c [.bool (!f)] o))))/\
 ∀ k d,c [.bool k] d->Br k (K (.tuple #[.string ({ data:=#[] }:ByteArray),I 1]) d)
 (aC P Jy #[.string b,.string a] d (fun p j=>∃ l,p=I l/\Bd (l<0) (K (.tuple #[.string ({ data:=#[] }:ByteArray),I 3]) j)
 (aC P X9 #[.string a,.string b] j (fun q r=>∃ (g:ByteArray),q= .string g/\K (.tuple #[.string g,I 0]) r))))
def A2e a b(hvc:Zw prog a b h K):aC prog In #[.string a,.string b] h K:=
 fnk func128 { cuts:=[(2,⟨[13],[],[.bool false],⟨(Lrg 6 8),[]⟩⟩)] } [] [] hvc
def A9i(P:aE)(o:OA)(p q:Nat)(j0:OA)(m l3:Nat)(y:OA)(z j1:Nat)(j2:OA)(j3 l4:Nat)(h:aG)(K:VP):Prop:=
 aC P A6u #[Sl o p q] h (fun j4 j5=>∃ j f v,j4=Sl j f v/\∃ (r:LP) (A:LN),r [I 0] j5/\
 ∀ a l,r [I a] l->Bd (a<(f:Int)) (∃ T,Ax j T a f <| ∃ k8 C k9,Hd l (T.add (a.toNat*1)) k8 C k9 <| ∃ (s:LP) (B:LN),s [I 0] l/\
 ∀ e d,s [I e] d->Bd (e<(C:Int)) (∃ V,Ax j V a f <| ∃ W X l0,Hd d (V.add (a.toNat*1)) W X l0 <| ∃ Z,Ax j Z a f <| ∃ a0 a1 l1,Hd d (Z.add (a.toNat*1)) a0 a1 l1 <| ∃ a2,Ax a0 a2 e a1 <| ∃ a3 a4 a5 a6 a7 a8 a9 b0,Lq d (a2.add (e.toNat*4)) a3 a4 a5 a6 a7 a8 a9 b0 <| ∃ b1,Ax j2 b1 a j3 <| ∃ b2 b3 b4 b5 b6 b7 b8 b9,Lq d (b1.add (a.toNat*4)) b2 b3 b4 b5 b6 b7 b8 b9<|aC P A1c #[Qv a3 a4 a5 a6 a7 a8 a9 b0,Qv b2 b3 b4 b5 b6 b7 b8 b9] d (fun j6 L=>∃ c0 c1 c2 c3 c4 c5 c6 c7,j6=Qv c0 c1 c2 c3 c4 c5 c6 c7/\d.le L/\∃ c8,Ax W c8 e X<|wpH P (aD 81 (Pt (c8.add (e.toNat*4))) (Qv c0 c1 c2 c3 c4 c5 c6 c7)) (fun _ M=>s [I (B4 (e+1))] M/\B [I (B4 (e+1))] M<B [I e] d) L))
 (r [I (B4 (a+1))] d/\A [I (B4 (a+1))] d<A [I a] l))
 (wpH P (Instr.makeSlice 75 (I (m:Int)) (I (m:Int))) (fun j7 j8=>∃ w x c9,j7=Sl w x c9/\aC P A8v #[Sl o p q,Sl y z j1] j8 (fun j9 k0=>∃ d0 d1 l2,j9=Sl d0 d1 l2/\∃ (t:LP) (D:LN),t [I 0] k0/\
 ∀ b g,t [I b] g->Bd (b<(m:Int)) (∃ d2,Ax j0 d2 b m <| ∃ d3 d4 d5 d6 d7 d8 d9 e0,Lq g (d2.add (b.toNat*4)) d3 d4 d5 d6 d7 d8 d9 e0 <| ∃ e1,Ax d0 e1 b d1 <| ∃ e2 e3 e4 e5 e6 e7 e8 e9,Lq g (e1.add (b.toNat*4)) e2 e3 e4 e5 e6 e7 e8 e9<|aC P A1a #[Qv d3 d4 d5 d6 d7 d8 d9 e0,Qv e2 e3 e4 e5 e6 e7 e8 e9] g (fun k1 N=>∃ f0 f1 f2 f3 f4 f5 f6 f7,k1=Qv f0 f1 f2 f3 f4 f5 f6 f7/\g.le N/\∃ f8,Ax w f8 b x<|wpH P (aD 81 (Pt (f8.add (b.toNat*4))) (Qv f0 f1 f2 f3 f4 f5 f6 f7)) (fun _ O=>t [I (B4 (b+1))] O/\D [I (B4 (b+1))] O<D [I b] g) N))
 (aC P Tu #[Sl o p q,Sl j f v] g (fun k2 k3=>∃ f9 g0 g1,k2=Sl f9 g0 g1/\aC P Lp #[Sl f9 g0 g1,Sl w x c9] k3 (fun k4 Q=>∃ (E:OA) (F G:Nat) (H:Bool),k4= .tuple #[Sl E F G,.bool H]/\Br (!H) (K (.tuple #[Sl none 0 0,.bool false]) Q)
 (aC P A8v #[Sl j f v,Sl E F G] Q (fun k5 k6=>∃ n k g2,k5=Sl n k g2/\∃ (u:LP) (J:LN),u [I 0] k6/\
 ∀ c i,u [I c] i->Bd (c<(k:Int)) (∃ g3,Ax n g3 c k <| ∃ g4 g5 g6 g7 g8 g9 h0 h1,Lq i (g3.add (c.toNat*4)) g4 g5 g6 g7 g8 g9 h0 h1 <| ∃ h2,Ax y h2 c z <| ∃ h3 h4 h5 h6 h7 h8 h9 i0,Lq i (h2.add (c.toNat*4)) h3 h4 h5 h6 h7 h8 h9 i0<|aC P Qr #[Qv g4 g5 g6 g7 g8 g9 h0 h1,Qv h3 h4 h5 h6 h7 h8 h9 i0] i (fun k7 R=>∃ i1 i2 i3 i4 i5 i6 i7 i8,k7=Qv i1 i2 i3 i4 i5 i6 i7 i8/\i.le R/\∃ i9,Ax n i9 c k<|wpH P (aD 81 (Pt (i9.add (c.toNat*4))) (Qv i1 i2 i3 i4 i5 i6 i7 i8)) (fun _ S=>u [I (B4 (c+1))] S/\J [I (B4 (c+1))] S<J [I c] i) R))
 (K (.tuple #[Sl n k g2,.bool true]) i)))))))) l))
def A7n a b c d e f g i j k l m(hvc:A9i prog a b c d e f g i j k l m h K):aC prog Qu #[Sl a b c,Sl d e f,Sl g i j,Sl k l m] h K:=
 fnk func51 { loops:=[(3,⟨[24],[],[I 0],⟨([11,12]++Lrg 24 31),[]⟩⟩),(6,⟨[32],[],[I 0],⟨([12]++Lrg 32 22),[]⟩⟩),(14,⟨[63],[],[I 0],⟨([15]++Lrg 63 16),[]⟩⟩),(23,⟨[94],[],[I 0],⟨([19]++Lrg 94 16),[]⟩⟩)] } [] [] hvc
def C09(P:aE) (h:aG)(K:VP):Prop:=
 aC P In #[.string ({ data:=#[51,47,49,48] }:ByteArray),.string ({ data:=#[50,47,53] }:ByteArray)] h (fun d c=>∃ (a:ByteArray) (b:Int),d= .tuple #[.string a,I b]/\Br (b==0) (K (.bool (a.toList==ByteArray.toList ({ data:=#[49,47,51] }:ByteArray))) c)
 (K (.bool false) c))
def B60 (hvc:C09 prog  h K):aC prog Gk #[] h K:=
 fnk func52 an0 [] [] hvc
def Ji(P:aE)(p:Int)(k:Int)(q:OA)(l r:Nat)(s:OA)(f t:Nat)(u:OA)(g v:Nat)(w:OA)(i x:Nat)(h:aG)(K:VP):Prop:=
 ∃ (j:LP),(Bd ((l:Int)>12) (j [.bool true] h)
 (Bd ((B4 ((B4 ((f:Int)+(g:Int)))+(i:Int)))>16) (j [.bool true] h)
 (aC P Tp #[I 30,Sl q l r] h (fun e8 b7=>∃ (M:Bool),e8= .bool M/\Br (!M) (j [.bool true] b7)
 (wpH P (Instr.buildSlice 38 0 #[]) (fun e9 f0=>∃ c0 c1 c2,e9=Sl c0 c1 c2/\wpH P (aF #[38,38] 38 #[Sl c0 c1 c2,Sl s f t]) (fun f1 f2=>∃ c3 c4 c5,f1=Sl c3 c4 c5/\wpH P (aF #[38,38] 38 #[Sl c3 c4 c5,Sl u g v]) (fun f3 f4=>∃ c6 c7 c8,f3=Sl c6 c7 c8/\wpH P (aF #[38,38] 38 #[Sl c6 c7 c8,Sl w i x]) (fun f5 f6=>∃ c9 d0 d1,f5=Sl c9 d0 d1/\aC P Tp #[I 30,Sl c9 d0 d1] f6 (fun f7 f8=>∃ (N:Bool),f7= .bool N/\j [.bool (!N)] f8)) f4) f2) f0) b7)))))/\
 ∀ d2 F,j [.bool d2] F->Br d2 (aC P Gk #[] F (fun f9 g0=>∃ (O:Bool),f9= .bool O/\K (.bool O) g0))
 (aC P Qx #[Mv p k q l r,Sl s f t,Sl u g v,Sl w i x] F (fun g1 g2=>∃ (Q:OA) (m R:Nat) (n:Int),g1= .tuple #[Sl Q m R,I n]/\aC P A1g #[Mv p k q l r] g2 (fun g3 g4=>∃ (S:OA) (T V:Nat) (W:Bool),g3= .tuple #[Sl S T V,.bool W]/\aC P Lo #[Sl s f t] g4 (fun g5 g6=>∃ (X:OA) (Z a0:Nat) (a1:Bool),g5= .tuple #[Sl X Z a0,.bool a1]/\aC P Lo #[Sl u g v] g6 (fun g7 g8=>∃ (a2:OA) (a3 a4:Nat) (a5:Bool),g7= .tuple #[Sl a2 a3 a4,.bool a5]/\aC P Lo #[Sl w i x] g8 (fun g9 b=>∃ (y:OA) (o a6:Nat) (a7:Bool),g9= .tuple #[Sl y o a6,.bool a7]/\∃ (a:LP),(Br (!W) (a [I 1] b)
 (Br (!a1) (a [I 1] b)
 (Br (!a5) (a [I 1] b)
 (Br (!a7) (a [I 1] b)
 (Br ((f:Int) != p) (a [I 4] b)
 (Br ((g:Int) != k) (a [I 4] b)
 (Br ((i:Int) != k) (a [I 4] b)
 (a [I 0] b))))))))/\
 ∀ d3 d4,a [I d3] d4->∃ (z:LP),(∃ (A:LP) (a8:LN),A [I d3,I 0] d4/\
 ∀ d c e,A [I d,I c] e->Bd (c<(o:Int)) (Br (d==0) (∃ (B:LP),(∃ d5,Ax y d5 c o <| ∃ d6 d7 d8 d9 e0 e1 e2 e3,Lq e (d5.add (c.toNat*4)) d6 d7 d8 d9 e0 e1 e2 e3<|aC P Df #[Qv d6 d7 d8 d9 e0 e1 e2 e3] e (fun h0 b8=>∃ e4,h0=I e4/\Bd (e4<=0) (B [I 3] b8)
 (B [I d] b8)))/\
 ∀ G H,B [I G] H->A [I G,I (B4 (c+1))] H/\a8 [I G,I (B4 (c+1))] H<a8 [I d,I c] e)
 (z [I d] e))
 (z [I d] e))/\
 ∀ J L,z [I J] L->Br (J != 0) (aC P Gk #[] L (fun h1 C=>∃ (a9:Bool),h1= .bool a9/\Br a9 (Br (n==J) (K (.bool ((m:Int)==0)) C)
 (K (.bool false) C))
 (K (.bool false) C)))
 (aC P Qu #[Sl S T V,Sl X Z a0,Sl a2 a3 a4,Sl y o a6] L (fun h2 b9=>∃ (b0:OA) (b1 b2:Nat) (b3:Bool),h2= .tuple #[Sl b0 b1 b2,.bool b3]/\Br (!b3) (aC P Gk #[] b9 (fun h3 D=>∃ (b4:Bool),h3= .bool b4/\Br b4 (Br (n==8) (K (.bool ((m:Int)==0)) D)
 (K (.bool false) D))
 (K (.bool false) D)))
 (aC P Gk #[] b9 (fun h4 E=>∃ (b5:Bool),h4= .bool b5/\Br b5 (Br (n==0) (aC P A18 #[Sl b0 b1 b2] E (fun h5 h6=>∃ e5 e6 e7,h5=Sl e5 e6 e7/\aC P Dv #[Sl Q m R,Sl e5 e6 e7] h6 (fun h7 h8=>∃ (b6:Bool),h7= .bool b6/\K (.bool b6) h8)))
 (K (.bool false) E))
 (K (.bool false) E)))))))))))
def Pm a b c d e f g i j k l m n o(hvc:Ji prog a b c d e f g i j k l m n o h K):aC prog Eu #[Mv a b c d e,Sl f g i,Sl j k l,Sl m n o] h K:=
 fnk func9 ⟨[(14,⟨[19,20],[],[I 0,I 0],⟨([19,20]++Lrg 119 16),[]⟩⟩)],[(2,⟨[54],[],[.bool false],⟨(Lrg 23 32),[]⟩⟩),(13,⟨[19],[],[I 0],⟨([19]++Lrg 84 35),[]⟩⟩),(15,⟨[19],[],[I 0],⟨[19,129,130,131,132,133,134],[]⟩⟩),(18,⟨[19],[],[I 0],⟨([19,20]++Lrg 119 16),[]⟩⟩)],[],[],[]⟩ [4] [] hvc
def B9z(P:aE)(i:Int)(j:OA)(d k:Nat)(h:aG)(K:VP):Prop:=
 ∃ (c:LP) (e:LN),c [I 0] h/\
 ∀ a b,c [I a] b->Bd (a<(d:Int)) (∃ g,Ax j g a d <| ∃ (f:ByteArray),b.cell? (g.add (a.toNat*1))=some (.string f)/\Bd (((ByteArray.size f:Nat):Int)>i) (K (.bool false) b)
 (c [I (B4 (a+1))] b/\e [I (B4 (a+1))] b<e [I a] b))
 (K (.bool true) b)
def B5g a b c d(hvc:B9z prog a b c d h K):aC prog Tp #[I a,Sl b c d] h K:=
 fnk func60 { loops:=[(2,⟨[9],[],[I 0],⟨([4,6]++Lrg 9 9),[]⟩⟩)] } [] [] hvc
def So(P:aE)(l:OA)(c n:Nat)(m:OA)(e o:Nat)(h:aG)(K:VP):Prop:=
 Br ((c:Int) != (e:Int)) (K (.bool false) h)
 (∃ (d:LP) (f:LN),d [I 0] h/\
 ∀ a b,d [I a] b->Bd (a<(c:Int)) (∃ j,Ax l j a c <| ∃ (g:ByteArray),b.cell? (j.add (a.toNat*1))=some (.string g)/\∃ k,Ax m k a e <| ∃ (i:ByteArray),b.cell? (k.add (a.toNat*1))=some (.string i)/\Br (!(g.toList==i.toList)) (K (.bool false) b)
 (d [I (B4 (a+1))] b/\f [I (B4 (a+1))] b<f [I a] b))
 (K (.bool true) b))
def Xb a b c d e f(hvc:So prog a b c d e f h K):aC prog Dv #[Sl a b c,Sl d e f] h K:=
 fnk func53 { loops:=[(4,⟨[13],[],[I 0],⟨([4,5]++Lrg 13 13),[]⟩⟩)] } [] [] hvc
