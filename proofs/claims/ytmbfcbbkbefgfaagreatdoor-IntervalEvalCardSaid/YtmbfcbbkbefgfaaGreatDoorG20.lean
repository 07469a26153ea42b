/- A part. -/
import Derived.Test.YtmbfcbbkbefgfaaGreatDoorG19
open Go.Proofs.Tryz
set_option linter.all false
open _root_.ByteArray renaming toList->aE,size->aG
open _root_.Go renaming Program->aD
open _root_.Go.Proofs.YtmbfcbbkbefgfaaGreatDoor renaming FCall->aC,Heap->aF
namespace Go.Proofs.YtmbfcbbkbefgfaaGreatDoor
open Go
set_option maxRecDepth 100000
variable {h:aF} {K:VP}
abbrev Kp:Nat:=149
abbrev W9:Nat:=229
abbrev W7:Nat:=148
abbrev An:Nat:=193
abbrev V5:Nat:=226
abbrev A5a:Nat:=227
abbrev Ih:Nat:=196
abbrev P7:Nat:=194
abbrev C0s:Nat:=159
abbrev B7b:Nat:=170
abbrev W8:Nat:=185
abbrev Kr:Nat:=186
abbrev Yd:Nat:=181
abbrev L4:Nat:=195
abbrev Ed:Nat:=76
abbrev Vp:Nat:=189
abbrev U3:Nat:=109
abbrev C2n:Nat:=266
abbrev A5c:Nat:=108
abbrev C2m:Nat:=123
abbrev Kq:Nat:=122
abbrev A5b:Nat:=136
abbrev A1i:Nat:=139
abbrev Ye:Nat:=137
abbrev A3s:Nat:=138
abbrev Yc:Nat:=140
abbrev C2q:Nat:=202
abbrev Oo:Nat:=187
abbrev X4:Nat:=104
abbrev Ni:Nat:=92
abbrev Db:Nat:=158
abbrev C0u:Nat:=349
abbrev Nj:Nat:=197
abbrev A9r:Nat:=247
abbrev A9s:Nat:=102
abbrev C2p:Nat:=180
abbrev A5e:Nat:=103
abbrev Hs:Nat:=220
abbrev A5f:Nat:=160
abbrev A5d:Nat:=221
abbrev Qc:Nat:=218
abbrev A3t:Nat:=219
abbrev A8a:Nat:=303
def B5s(P:aD)(p:ByteArray)(h:aF)(K:VP):Prop:=
 aC P Gn #[.string p,.string ({ data:=#[45] }:ByteArray)] h (fun q r=>∃ (j:ByteArray) (b:Bool),q= .tuple #[.string j,.bool b]/\aC P W9 #[.string j] r (fun s f=>∃ (a d:ByteArray),s= .tuple #[.string a,.string d]/\Br (a.toList==aE ({ data:=#[48] }:ByteArray)) (Br (!b) (K (.tuple #[.agg #[.bool b,.string a,.string ({ data:=#[] }:ByteArray)],.bool (d.toList==aE ({ data:=#[] }:ByteArray))]) f)
 (K (.tuple #[.agg #[.bool b,.string a,.string ({ data:=#[] }:ByteArray)],.bool false]) f))
 (∃ (i:LP),(Br (a.toList==aE ({ data:=#[] }:ByteArray)) (i [.bool true] f)
 (∃ (k:UInt8),(0<=(0:Int)/\(a)[((0:Int)).toNat]? = some k)/\i [.bool (((k.toNat:Nat):Int)==48)] f))/\
 ∀ o e,i [.bool o] e->Br o (K (.tuple #[.agg #[.bool b,.string a,.string ({ data:=#[] }:ByteArray)],.bool false]) e)
 (Br (d.toList==aE ({ data:=#[] }:ByteArray)) (K (.tuple #[.agg #[.bool b,.string a,.string ({ data:=#[] }:ByteArray)],.bool true]) e)
 (∃ (l:UInt8),(0<=(0:Int)/\(d)[((0:Int)).toNat]? = some l)/\Br (((l.toNat:Nat):Int) != 47) (K (.tuple #[.agg #[.bool b,.string a,.string ({ data:=#[] }:ByteArray)],.bool false]) e)
 ((0<=(1:Int)/\(1:Int)<=(((d).size:Nat):Int))/\aC P W9 #[.string ((d).extract (((1:Int)).toNat) ((d).size))] e (fun t g=>∃ (c m:ByteArray),t= .tuple #[.string c,.string m]/\Br (m.toList==aE ({ data:=#[] }:ByteArray)) (Br (!(c.toList==aE ({ data:=#[] }:ByteArray))) (∃ (n:UInt8),(0<=(0:Int)/\(c)[((0:Int)).toNat]? = some n)/\Br (((n.toNat:Nat):Int) != 48) (K (.tuple #[.agg #[.bool b,.string a,.string c],.bool (!(c.toList==aE ({ data:=#[49] }:ByteArray)))]) g)
 (K (.tuple #[.agg #[.bool b,.string a,.string c],.bool false]) g))
 (K (.tuple #[.agg #[.bool b,.string a,.string c],.bool false]) g))
 (K (.tuple #[.agg #[.bool b,.string a,.string c],.bool false]) g))))))))
def B0y a(hvc:B5s prog a h K):aC prog Kp #[.string a] h K:=
 fnk func149 { cuts:=[(8,⟨[31],[],[.bool false],⟨(Lrg 31 10),[]⟩⟩)] } [2,4] [] hvc
def Wa(P:aD)(b:ByteArray)(h:aF)(K:VP):Prop:=
 ∃ (e:LP),(∃ (f:LP) (g:LN),f [I 0] h/\
 ∀ a c,f [I a] c->Bd (a<((aG b:Nat):Int)) (∃ (i:UInt8),(0<=a/\(b)[a.toNat]? = some i)/\Bd ((48:Int)<=((i.toNat:Nat):Int)) (∃ (j:UInt8),(0<=a/\(b)[a.toNat]? = some j)/\Bd (((j.toNat:Nat):Int)<=57) (f [I (B5 (a+1))] c/\g [I (B5 (a+1))] c<g [I a] c)
 (e [I a] c))
 (e [I a] c))
 (e [I a] c))/\
 ∀ d k,e [I d] k->(0<=d/\d<=(((b).size:Nat):Int))/\(0<=d/\d<=(((b).size:Nat):Int))/\K (.tuple #[.string ((b).extract 0 (d.toNat)),.string ((b).extract (d.toNat) ((b).size))]) k
def Ze a(hvc:Wa prog a h K):aC prog W9 #[.string a] h K:=
 fnk func229 ⟨[(2,⟨[4],[],[I 0],⟨(Lrg 4 19),[]⟩⟩)],[(4,⟨[4],[],[I 0],⟨(Lrg 4 19),[]⟩⟩)],[],[],[]⟩ [] [] hvc
def Vz(P:aD)(n:ByteArray)(h:aF)(K:VP):Prop:=
 Bd (((aG n:Nat):Int)>20) (K (.tuple #[.agg #[I 0,I 0],.bool false]) h)
 (aC P Kp #[.string n] h (fun x g=>∃ (o:Bool) (d a:ByteArray) (p:Bool),x= .tuple #[.agg #[.bool o,.string d,.string a],.bool p]/\∃ (b:LP),(Br (!p) (b [.bool true] g)
 (Bd (((aG d:Nat):Int)>9) (b [.bool true] g)
 (b [.bool (decide (((aG a:Nat):Int)>9))] g)))/\
 ∀ s i,b [.bool s] i->Br s (K (.tuple #[.agg #[I 0,I 0],.bool false]) i)
 (aC P V5 #[.string d] i (fun y q=>∃ c,y=I c/\∃ (e:LP),(Br (!(a.toList==aE ({ data:=#[] }:ByteArray))) (aC P V5 #[.string a] q (fun z A=>∃ j,z=I j/\aC P A5a #[I c,I j] A (fun B r=>∃ t,B=I t/\Br (t != 1) (K (.tuple #[.agg #[I 0,I 0],.bool false]) r)
 (e [I 0,I 0,I c,I j] r))))
 (e [I 0,I 0,I c,I 1] q))/\
 ∀ C D k l m,e [I C,I D,I k,I l] m->∃ (f:LP),(Br o (f [I (B5 (0-k)),I l] m)
 (f [I k,I l] m))/\
 ∀ u v w,f [I u,I v] w->K (.tuple #[.agg #[I u,I v],.bool true]) w))))
def Zd a(hvc:Vz prog a h K):aC prog W7 #[.string a] h K:=
 fnk func148 { cuts:=[(5,⟨[29],[],[.bool false],⟨(Lrg 16 14),[]⟩⟩),(11,⟨[],[(2,2),(6,2)],[I 0,I 0,I 0,I 0],⟨([3]++Lrg 35 14),[2,6]⟩⟩),(13,⟨[],[(6,2)],[I 0,I 0],⟨[49,50,51,52,53,54],[6]⟩⟩)] } [2,4,6] [] hvc
def A5t(P:aD)(j k:ByteArray)(h:aF)(K:VP):Prop:=
 aC P W7 #[.string j] h (fun l g=>∃ (a:Int) (b:Int) (c:Bool),l= .tuple #[.agg #[I a,I b],.bool c]/\Br (!c) (K (.tuple #[.agg #[I 0,I 0],.agg #[I 0,I 0],.bool false]) g)
 (aC P W7 #[.string k] g (fun m i=>∃ (d:Int) (e:Int) (f:Bool),m= .tuple #[.agg #[I d,I e],.bool f]/\Br (!f) (K (.tuple #[.agg #[I 0,I 0],.agg #[I 0,I 0],.bool false]) i)
 (K (.tuple #[.agg #[I a,I b],.agg #[I d,I e],.bool true]) i))))
def A4a a b(hvc:A5t prog a b h K):aC prog An #[.string a,.string b] h K:=
 fnk func193 an0 [4,5,7,9] [] hvc
def Pe(P:aD)(f:ByteArray)(h:aF)(K:VP):Prop:=
 ∃ (d:LP) (g:LN),d [I 0,I 0] h/\
 ∀ b a c,d [I b,I a] c->Bd (a<((aG f:Nat):Int)) (∃ (e:UInt8),(0<=a/\(f)[a.toNat]? = some e)/\d [I (B5 ((B5 ((10:Int)*b))+(B5 (wu8 (((e.toNat:Nat):Int)-48))))),I (B5 (a+1))] c/\g [I (B5 ((B5 ((10:Int)*b))+(B5 (wu8 (((e.toNat:Nat):Int)-48))))),I (B5 (a+1))] c<g [I b,I a] c)
 (K (I b) c)
def To a(hvc:Pe prog a h K):aC prog V5 #[.string a] h K:=
 fnk func226 { loops:=[(3,⟨[3,7],[],[I 0,I 0],⟨([3,4]++Lrg 7 12),[]⟩⟩)] } [] [] hvc
def C39(P:aD)(f:Int)(g:Int)(h:aF)(K:VP):Prop:=
 ∃ (d:LP) (e:LN),d [I f,I g] h/\
 ∀ b a c,d [I b,I a] c->Br (a != 0) (Bd (a=0) False
 (d [I a,I (Int.tmod b a)] c/\e [I a,I (Int.tmod b a)] c<e [I b,I a] c))
 (K (I b) c)
def B80 a b(hvc:C39 prog a b h K):aC prog A5a #[I a,I b] h K:=
 fnk func227 { loops:=[(1,⟨[0,1],[],[I 0,I 0],⟨[0,1,5,6,7,8,9,10],[]⟩⟩)] } [] [] hvc
def Pf(P:aD)(b:Int)(c:Int)(h:aF)(K:VP):Prop:=
 aC P Nm #[I b,I c] h (fun d e=>∃ a,d=I a/\K (I a) e)
def Tp a b(hvc:Pf prog a b h K):aC prog Ih #[I a,I b] h K:=
 fnk func196 an0 [] [] hvc
def Pd(P:aD)(l:Int)(d:Int)(h:aF)(K:VP):Prop:=
 ∃ (e:LP),(Bd (d<0) (e [I (B5 (0-l)),I (B5 (0-d))] h)
 (e [I l,I d] h))/\
 ∀ a b g,e [I a,I b] g->∃ (f:LP),(Br (b != 1) (aC P A5a #[I (if (B5 (0-a))>a then B5 (0-a) else a),I b] g (fun B C=>∃ c,B=I c/\Bd (c=0) False
 (Bd (c=0) False
 (f [I (B5 (Int.tdiv a c)),I (B5 (Int.tdiv b c))] C))))
 (f [I a,I b] g))/\
 ∀ i j k,f [I i,I j] k->Br (j==1) (aC P Ca #[I i,I 10] k (fun D E=>∃ (m:ByteArray),D= .string m/\K (.string m) E))
 (wpH P (Instr.alloc 303 true (T0)) (fun F G=>∃ (n:Addr),F=Pt n/\(0<=(0:Int)/\(0:Int)<=(48:Int))/\aC P Cb #[.slice (J4 (some n) 48 0 1) ((((0:Int)).toNat)-0) (48-0),I i,I 10] G (fun H J=>∃ p q r,H=Sl p q r/\wpH P (Instr.buildSlice 248 1 #[(0,Y (47:Int))]) (fun L M=>∃ s t u,L=Sl s t u/\wpH P (Builtin.append_ #[248,248] 248 #[Sl p q r,Sl s t u]) (fun N O=>∃ v w x,N=Sl v w x/\aC P Cb #[Sl v w x,I j,I 10] O (fun Q R=>∃ y z A,Q=Sl y z A/\wpH P (convert 248 9 (.slice y z A)) (fun S T=>∃ (o:ByteArray),S= .string o/\K (.string o) T) R)) M) J)) k)
def Tn a b(hvc:Pd prog a b h K):aC prog P7 #[I a,I b] h K:=
 fnk func194 { cuts:=[(3,⟨[0,1],[],[I 0,I 0],⟨[0,1,8,9,10,11,12,13],[]⟩⟩),(6,⟨[0,1],[],[I 0,I 0],⟨([0,1,5]++Lrg 14 14),[]⟩⟩)] } [] [253] hvc
def B0z(P:aD)(a:Bool)(b:OA)(c d:Nat)(e:Bool)(f:OA)(g i:Nat)(h:aF)(K:VP):Prop:=
 aC P Bt #[Zv e f g i] h (fun l k=>∃ (j:Bool),l= .bool j/\Br j (K (Qv a b c d false none 0 0) k)
 (K (Qv a b c d e f g i) k))
def A76 a b c d e f g i(hvc:B0z prog a b c d e f g i h K):aC prog W8 #[Zv a b c d,Zv e f g i] h K:=
 fnk func185 an0 [2,3,4] [] hvc
def B11(P:aD)(e:Bool)(f:OA)(g i:Nat)(a:Bool)(b:OA)(c d:Nat)(h:aF)(K:VP):Prop:=
 aC P Bt #[Zv a b c d] h (fun A p=>∃ (o:Bool),A= .bool o/\Br o (K (.tuple #[Zv e f g i,Zv a b c d]) p)
 (aC P Rp #[Zv e f g i,Zv a b c d] p (fun B q=>∃ k l m n,B=Zv k l m n/\aC P Om #[Zv e f g i,Zv k l m n] q (fun C j=>∃ s t u v,C=Zv s t u v/\q.le j/\aC P Om #[Zv a b c d,Zv k l m n] j (fun D r=>∃ w x y z,D=Zv w x y z/\j.le r/\K (.tuple #[Zv s t u v,Zv w x y z]) r)))))
def A77 a b c d e f g i(hvc:B11 prog a b c d e f g i h K):aC prog Kr #[Zv a b c d,Zv e f g i] h K:=
 fnk func186 { orders:=[(4,([0,1,3,4,2,5,6,7],[]))] } [2,3,4,5,6] [] hvc
def C04(P:aD)(L:ByteArray)(h:aF)(K:VP):Prop:=
 aC P Kp #[.string L] h (fun M u=>∃ (q:Bool) (r e:ByteArray) (s:Bool),M= .tuple #[.agg #[.bool q,.string r,.string e],.bool s]/\Br (!s) (K (.tuple #[Qv false none 0 0 false none 0 0,.bool false]) u)
 (aC P Hr #[.string r] u (fun N v=>∃ g i j k,N=Zv g i j k/\∃ (f:LP),(Br q (aC P On #[Zv g i j k] v (fun O Q=>∃ x y z A,O=Zv x y z A/\f [.bool x,.slice y z A,.bool false,N0] Q))
 (f [.bool g,.slice i j k,.bool false,N0] v))/\
 ∀ a b c d B C D E l,f [.bool a,.slice b c d,.bool B,.slice C D E] l->Br (e.toList==aE ({ data:=#[] }:ByteArray)) (K (.tuple #[Qv a b c d B C D E,.bool true]) l)
 (aC P Hr #[.string e] l (fun R S=>∃ m n o p,R=Zv m n o p/\aC P Rp #[Zv a b c d,Zv m n o p] S (fun T V=>∃ F G H J,T=Zv F G H J/\aC P Bt #[Zv F G H J] V (fun W w=>∃ (t:Bool),W= .bool t/\Br (!t) (K (.tuple #[Qv false none 0 0 false none 0 0,.bool false]) w)
 (K (.tuple #[Qv a b c d m n o p,.bool true]) w))))))))
def B4d a(hvc:C04 prog a h K):aC prog Yd #[.string a] h K:=
 fnk func181 { cuts:=[(7,⟨[],[(6,4)],[.bool false,N0,.bool false,N0],⟨[19,20,21,22,23,24],[6]⟩⟩)] } [2,4,6] [] hvc
def B5q(P:aD)(j:ByteArray)(h:aF)(K:VP):Prop:=
 aC P Yd #[.string j] h (fun l m=>∃ (a:Bool) (b:OA) (c d:Nat) (e:Bool) (f:OA) (g i:Nat) (k:Bool),l= .tuple #[Qv a b c d e f g i,.bool k]/\K (Qv a b c d e f g i) m)
def B0w a(hvc:B5q prog a h K):aC prog L4 #[.string a] h K:=
 fnk func195 an0 [2,3] [] hvc
def B5r(P:aD)(g:ByteArray)(h:aF)(K:VP):Prop:=
 aC P W7 #[.string g] h (fun C l=>∃ (z:Int) (A:Int) (i:Bool),C= .tuple #[.agg #[I z,I A],.bool i]/\Br i (K (.bool true) l)
 (aC P Kp #[.string g] l (fun D b=>∃ (B:Bool) (j c:ByteArray) (a:Bool),D= .tuple #[.agg #[.bool B,.string j,.string c],.bool a]/\Br (!a) (K (.bool a) b)
 (Br (c.toList==aE ({ data:=#[] }:ByteArray)) (K (.bool a) b)
 (aC P Hr #[.string j] b (fun E d=>∃ n o p q,E=Zv n o p q/\b.le d/\aC P Hr #[.string c] d (fun F e=>∃ r s t u,F=Zv r s t u/\d.le e/\aC P Rp #[Zv n o p q,Zv r s t u] e (fun G f=>∃ v w x y,G=Zv v w x y/\e.le f/\aC P Bt #[Zv v w x y] f (fun H m=>∃ (k:Bool),H= .bool k/\f.le m/\K (.bool k) m)))))))))
def B0x a(hvc:B5r prog a h K):aC prog Ed #[.string a] h K:=
 fnk func76 { orders:=[(7,([0,1,3,4,2,5,6,7,8],[]))] } [3,5] [] hvc
def A5u(P:aD)(b:Int)(h:aF)(K:VP):Prop:=
 aC P Ca #[I b,I 10] h (fun c d=>∃ (a:ByteArray),c= .string a/\K (.string a) d)
def A4b a(hvc:A5u prog a h K):aC prog Vp #[I a] h K:=
 fnk func189 an0 [] [] hvc
def A5v(P:aD)(a b:ByteArray)(h:aF)(K:VP):Prop:=
 aC P An #[.string a,.string b] h (fun B i=>∃ (c:Int) (d:Int) (e:Int) (f:Int) (g:Bool),B= .tuple #[.agg #[I c,I d],.agg #[I e,I f],.bool g]/\Br g (aC P Ih #[I (B5 (c*f)),I (B5 (e*d))] i (fun C D=>∃ j,C=I j/\K (I j) D))
 (aC P L4 #[.string a] i (fun E F=>∃ k l m n o p q r,E=Qv k l m n o p q r/\aC P L4 #[.string b] F (fun G H=>∃ s t u v w x y z,G=Qv s t u v w x y z/\aC P Nj #[Qv k l m n o p q r,Qv s t u v w x y z] H (fun J L=>∃ A,J=I A/\K (I A) L)))))
def A4c a b(hvc:A5v prog a b h K):aC prog U3 #[.string a,.string b] h K:=
 fnk func109 an0 [5,6] [] hvc
def C3b(P:aD)(c d:ByteArray)(h:aF)(K:VP):Prop:=
 aC P An #[.string c,.string d] h (fun L k=>∃ (e:Int) (a:Int) (f:Int) (b:Int) (g:Bool),L= .tuple #[.agg #[I e,I a],.agg #[I f,I b],.bool g]/\Br g (aC P P7 #[I (B5 ((B5 (e*b))+(B5 (f*a)))),I (B5 (a*b))] k (fun M N=>∃ (i:ByteArray),M= .string i/\K (.string i) N))
 (aC P L4 #[.string c] k (fun O Q=>∃ l m n o p q r s,O=Qv l m n o p q r s/\aC P L4 #[.string d] Q (fun R S=>∃ t u v w x y z A,R=Qv t u v w x y z A/\aC P A9s #[Qv l m n o p q r s,Qv t u v w x y z A] S (fun T V=>∃ B C D E F G H J,T=Qv B C D E F G H J/\aC P X4 #[Qv B C D E F G H J] V (fun W X=>∃ (j:ByteArray),W= .string j/\K (.string j) X))))))
def B82 a b(hvc:C3b prog a b h K):aC prog A5c #[.string a,.string b] h K:=
 fnk func108 an0 [5,6] [] hvc
def C38(P:aD)(a b:ByteArray)(h:aF)(K:VP):Prop:=
 aC P An #[.string a,.string b] h (fun L k=>∃ (c:Int) (d:Int) (e:Int) (f:Int) (g:Bool),L= .tuple #[.agg #[I c,I d],.agg #[I e,I f],.bool g]/\Br g (aC P P7 #[I (B5 (c*e)),I (B5 (d*f))] k (fun M N=>∃ (i:ByteArray),M= .string i/\K (.string i) N))
 (aC P L4 #[.string a] k (fun O Q=>∃ l m n o p q r s,O=Qv l m n o p q r s/\aC P L4 #[.string b] Q (fun R S=>∃ t u v w x y z A,R=Qv t u v w x y z A/\aC P A5e #[Qv l m n o p q r s,Qv t u v w x y z A] S (fun T V=>∃ B C D E F G H J,T=Qv B C D E F G H J/\aC P X4 #[Qv B C D E F G H J] V (fun W X=>∃ (j:ByteArray),W= .string j/\K (.string j) X))))))
def B7z a b(hvc:C38 prog a b h K):aC prog Kq #[.string a,.string b] h K:=
 fnk func122 an0 [5,6] [] hvc
def C3a(P:aD)(p q:ByteArray)(h:aF)(K:VP):Prop:=
 aC P An #[.string p,.string q] h (fun V y=>∃ (r:Int) (s:Int) (a:Int) (t:Int) (u:Bool),V= .tuple #[.agg #[I r,I s],.agg #[I a,I t],.bool u]/\∃ (b:LP),(Br u (b [.bool (a != 0)] y)
 (b [.bool false] y))/\
 ∀ A f,b [.bool A] f->Br A (aC P P7 #[I (B5 (r*t)),I (B5 (s*a))] f (fun W X=>∃ (v:ByteArray),W= .string v/\K (.tuple #[.string v,.bool true]) X))
 (aC P L4 #[.string q] f (fun Z a0=>∃ g i j k l m n o,Z=Qv g i j k l m n o/\aC P Db #[Qv g i j k l m n o] a0 (fun a1 c=>∃ (w:Bool),a1= .bool w/\Br w (K (.tuple #[.string ({ data:=#[] }:ByteArray),.bool false]) c)
 (aC P L4 #[.string p] c (fun a2 d=>∃ B C D E F G H J,a2=Qv B C D E F G H J/\c.le d/\aC P A5f #[Qv B C D E F G H J,Qv g i j k l m n o] d (fun a3 e=>∃ L M N O Q R S T,a3=Qv L M N O Q R S T/\d.le e/\aC P X4 #[Qv L M N O Q R S T] e (fun a4 z=>∃ (x:ByteArray),a4= .string x/\e.le z/\K (.tuple #[.string x,.bool true]) z))))))))
def B81 a b(hvc:C3a prog a b h K):aC prog A5b #[.string a,.string b] h K:=
 fnk func136 ⟨[],[(3,⟨[22],[],[.bool false],⟨[17,18,19,20,21,22],[]⟩⟩)],[(7,([0,2,1,3,4,5,6],[]))],[],[]⟩ [6,7,9] [] hvc
def C37(P:aD)(Q:ByteArray)(a:Int)(h:aF)(K:VP):Prop:=
 Bd (a<(-1000:Int)) (K (.tuple #[.string ({ data:=#[] }:ByteArray),.bool false]) h)
 (Bd (a>1000) (K (.tuple #[.string ({ data:=#[] }:ByteArray),.bool false]) h)
 (aC P L4 #[.string Q] h (fun R n=>∃ b c d e f g i j,R=Qv b c d e f g i j/\Bd (a<0) (aC P Db #[Qv b c d e f g i j] n (fun S o=>∃ (k:Bool),S= .bool k/\Br k (K (.tuple #[.string ({ data:=#[] }:ByteArray),.bool false]) o)
 (aC P Hs #[Qv b c d e f g i j] o (fun T V=>∃ p q r s t u v w,T=Qv p q r s t u v w/\aC P A5d #[Qv p q r s t u v w,U (B8 (B5 (0-a)))] V (fun W X=>∃ x y z A B C D E,W=Qv x y z A B C D E/\aC P X4 #[Qv x y z A B C D E] X (fun Z a0=>∃ (l:ByteArray),Z= .string l/\K (.tuple #[.string l,.bool true]) a0))))))
 (aC P A5d #[Qv b c d e f g i j,U (B8 a)] n (fun a1 a2=>∃ F G H J L M N O,a1=Qv F G H J L M N O/\aC P X4 #[Qv F G H J L M N O] a2 (fun a3 a4=>∃ (m:ByteArray),a3= .string m/\K (.tuple #[.string m,.bool true]) a4))))))
def B7y a b(hvc:C37 prog a b h K):aC prog A1i #[.string a,I b] h K:=
 fnk func139 an0 [6] [] hvc
def B5t(P:aD)(o:ByteArray)(h:aF)(K:VP):Prop:=
 aC P L4 #[.string o] h (fun p q=>∃ b c d e f g i j,p=Qv b c d e f g i j/\aC P Qc #[Qv b c d e f g i j] q (fun r s=>∃ k l m n,r=Zv k l m n/\aC P Gc #[Zv k l m n] s (fun t u=>∃ (a:ByteArray),t= .string a/\K (.string a) u)))
def B10 a(hvc:B5t prog a h K):aC prog Ye #[.string a] h K:=
 fnk func137 an0 [] [] hvc
def C05(P:aD)(o:ByteArray)(h:aF)(K:VP):Prop:=
 aC P L4 #[.string o] h (fun p q=>∃ b c d e f g i j,p=Qv b c d e f g i j/\aC P A3t #[Qv b c d e f g i j] q (fun r s=>∃ k l m n,r=Zv k l m n/\aC P Gc #[Zv k l m n] s (fun t u=>∃ (a:ByteArray),t= .string a/\K (.string a) u)))
def B4e a(hvc:C05 prog a h K):aC prog A3s #[.string a] h K:=
 fnk func138 an0 [] [] hvc
def C03(P:aD)(a:ByteArray)(h:aF)(K:VP):Prop:=
 Br (a.toList==aE ({ data:=#[48] }:ByteArray)) (K (I 0) h)
 (aC P Ed #[.string a] h (fun e b=>∃ (c:Bool),e= .bool c/\Br (!c) (K (I 0) b)
 (∃ (d:UInt8),(0<=(0:Int)/\(a)[((0:Int)).toNat]? = some d)/\Br (((d.toNat:Nat):Int)==45) (K (I (-1:Int)) b)
 (K (I 1) b))))
def B4c a(hvc:C03 prog a h K):aC prog Yc #[.string a] h K:=
 fnk func140 an0 [] [] hvc
def C3g(P:aD)(o:Bool)(p:OA)(q r:Nat)(a:Bool)(b:OA)(c d:Nat)(h:aF)(K:VP):Prop:=
 aC P G2 #[Zv a b c d] h (fun l f=>∃ (e:Bool),l= .bool e/\Br e (aC P A59 #[I 1] f (fun m n=>∃ g i j k,m=Zv g i j k/\K (Zv g i j k) n))
 (K (Zv a b c d) f))
def B88 a b c d e f g i(hvc:C3g prog a b c d e f g i h K):aC prog Oo #[Qv a b c d e f g i] h K:=
 fnk func187 an0 [1,2] [] hvc
def B1a(P:aD)(a:Bool)(b:OA)(c d:Nat)(e:Bool)(f:OA)(g i:Nat)(h:aF)(K:VP):Prop:=
 aC P G2 #[Zv e f g i] h (fun D p=>∃ (j:Bool),D= .bool j/\Br j (aC P Ya #[Zv a b c d] p (fun E q=>∃ (k:Int) (l:Bool),E= .tuple #[I k,.bool l]/\Br l (aC P Vp #[I k] q (fun F G=>∃ (m:ByteArray),F= .string m/\K (.string m) G))
 (aC P Gc #[Zv a b c d] q (fun H J=>∃ (n:ByteArray),H= .string n/\K (.string n) J))))
 (aC P Gd #[Zv a b c d,Sl none 0 0] p (fun L M=>∃ r s t,L=Sl r s t/\wpH P (Instr.buildSlice 248 1 #[(0,Y (47:Int))]) (fun N O=>∃ u v w,N=Sl u v w/\wpH P (Builtin.append_ #[248,248] 248 #[Sl r s t,Sl u v w]) (fun Q R=>∃ x y z,Q=Sl x y z/\aC P Gd #[Zv e f g i,Sl x y z] R (fun S T=>∃ A B C,S=Sl A B C/\wpH P (convert 248 9 (.slice A B C)) (fun V W=>∃ (o:ByteArray),V= .string o/\K (.string o) W) T)) O) M)))
def A7e a b c d e f g i(hvc:B1a prog a b c d e f g i h K):aC prog X4 #[Qv a b c d e f g i] h K:=
 fnk func104 an0 [1] [] hvc
def C07(P:aD)(b:Bool)(c:OA)(d e:Nat)(i:Bool)(j:OA)(k l:Nat)(h:aF)(K:VP):Prop:=
 aC P Ng #[Zv b c d e] h (fun f g=>∃ a,f=I a/\K (I a) g)
def B4g a b c d e f g i(hvc:C07 prog a b c d e f g i h K):aC prog Ni #[Qv a b c d e f g i] h K:=
 fnk func92 an0 [1] [] hvc
def B1b(P:aD)(b:Bool)(c:OA)(d e:Nat)(i:Bool)(j:OA)(k l:Nat)(h:aF)(K:VP):Prop:=
 aC P G2 #[Zv b c d e] h (fun f g=>∃ (a:Bool),f= .bool a/\K (.bool a) g)
def A7f a b c d e f g i(hvc:B1b prog a b c d e f g i h K):aC prog Db #[Qv a b c d e f g i] h K:=
 fnk func158 an0 [1] [] hvc
def A5x(P:aD)(a:Bool)(b:OA)(c d:Nat)(k:Bool)(l:OA)(m n:Nat)(e:Bool)(f:OA)(g i:Nat)(o:Bool)(p:OA)(q r:Nat)(h:aF)(K:VP):Prop:=
 ∃ (s:LP),(aC P G2 #[Zv k l m n] h (fun a8 j=>∃ (B:Bool),a8= .bool B/\h.le j/\Br B (aC P G2 #[Zv o p q r] j (fun a9 t=>∃ (C:Bool),a9= .bool C/\j.le t/\Br C (s [.bool true] t)
 (aC P Ni #[Qv a b c d k l m n] t (fun b0 v=>∃ G,b0=I G/\t.le v/\aC P Ni #[Qv e f g i o p q r] v (fun b1 D=>∃ H,b1=I H/\v.le D/\s [.bool (G != H)] D)))))
 (aC P Ni #[Qv a b c d k l m n] j (fun b2 w=>∃ J,b2=I J/\j.le w/\aC P Ni #[Qv e f g i o p q r] w (fun b3 E=>∃ L,b3=I L/\w.le E/\s [.bool (J != L)] E)))))/\
 ∀ M u,s [.bool M] u->Br M (aC P Hq #[Zv a b c d,Zv e f g i] u (fun b4 b5=>∃ N,b4=I N/\K (I N) b5))
 (aC P Oo #[Qv e f g i o p q r] u (fun b6 x=>∃ O Q R S,b6=Zv O Q R S/\u.le x/\aC P Da #[Zv a b c d,Zv O Q R S] x (fun b7 y=>∃ T V W X,b7=Zv T V W X/\x.le y/\aC P Oo #[Qv a b c d k l m n] y (fun b8 z=>∃ Z a0 a1 a2,b8=Zv Z a0 a1 a2/\y.le z/\aC P Da #[Zv e f g i,Zv Z a0 a1 a2] z (fun b9 A=>∃ a3 a4 a5 a6,b9=Zv a3 a4 a5 a6/\z.le A/\aC P Hq #[Zv T V W X,Zv a3 a4 a5 a6] A (fun c0 F=>∃ a7,c0=I a7/\A.le F/\K (I a7) F))))))
def A4e a b c d e f g i j k l m n o p q(hvc:A5x prog a b c d e f g i j k l m n o p q h K):aC prog Nj #[Qv a b c d e f g i,Qv j k l m n o p q] h K:=
 fnk func197 ⟨[],[(2,⟨[19],[],[.bool false],⟨(Lrg 5 15),[]⟩⟩)],[(1,((Lrg 0 10++[11,10,12,13,14]),[])),(3,([0,1,2,5,6,7,3,4,8,9,10,11],[]))],[],[]⟩ [2,3] [] hvc
def C3d(P:aD)(f:Bool)(g:OA)(i j:Nat)(k:Bool)(l:OA)(m n:Nat)(h:aF)(K:VP):Prop:=
 aC P On #[Zv f g i j] h (fun o a=>∃ b c d e,o=Zv b c d e/\h.le a/\K (Qv b c d e k l m n) a)
def B85 a b c d e f g i(hvc:C3d prog a b c d e f g i h K):aC prog A9r #[Qv a b c d e f g i] h K:=
 fnk func247 { orders:=[(1,([0,1,3,4,2,5,6],[]))] } [1,2] [] hvc
def C3h(P:aD)(r:Bool)(s:OA)(t u:Nat)(e:Bool)(f:OA)(g i:Nat)(v:Bool)(w:OA)(x y:Nat)(a:Bool)(b:OA)(c d:Nat)(h:aF)(K:VP):Prop:=
 ∃ (A:LP),(aC P G2 #[Zv e f g i] h (fun i3 a8=>∃ (a1:Bool),i3= .bool a1/\Br a1 (aC P G2 #[Zv a b c d] a8 (fun i4 i5=>∃ (a2:Bool),i4= .bool a2/\A [.bool a2] i5))
 (A [.bool false] a8)))/\
 ∀ b7 Q,A [.bool b7] Q->Br b7 (aC P Rq #[Zv r s t u,Zv v w x y] Q (fun i6 i7=>∃ b8 b9 c0 c1,i6=Zv b8 b9 c0 c1/\K (Qv b8 b9 c0 c1 false none 0 0) i7))
 (∃ (a3:LP),(aC P G2 #[Zv e f g i] Q (fun i8 i9=>∃ (a4:Bool),i8= .bool a4/\a3 [.bool a4] i9))/\
 ∀ c2 z,a3 [.bool c2] z->Br c2 (aC P Da #[Zv r s t u,Zv a b c d] z (fun j0 B=>∃ c3 c4 c5 c6,j0=Zv c3 c4 c5 c6/\z.le B/\aC P Rq #[Zv c3 c4 c5 c6,Zv v w x y] B (fun j1 a9=>∃ c7 c8 c9 d0,j1=Zv c7 c8 c9 d0/\B.le a9/\K (Qv c7 c8 c9 d0 a b c d) a9)))
 (aC P G2 #[Zv a b c d] z (fun j2 C=>∃ (a5:Bool),j2= .bool a5/\Br a5 (aC P Da #[Zv v w x y,Zv e f g i] C (fun j3 D=>∃ d1 d2 d3 d4,j3=Zv d1 d2 d3 d4/\C.le D/\aC P Rq #[Zv d1 d2 d3 d4,Zv r s t u] D (fun j4 b0=>∃ d5 d6 d7 d8,j4=Zv d5 d6 d7 d8/\D.le b0/\K (Qv d5 d6 d7 d8 e f g i) b0)))
 (aC P Rp #[Zv e f g i,Zv a b c d] C (fun j5 b1=>∃ j k l m,j5=Zv j k l m/\aC P Om #[Zv a b c d,Zv j k l m] b1 (fun j6 E=>∃ d9 e0 e1 e2,j6=Zv d9 e0 e1 e2/\b1.le E/\aC P Om #[Zv e f g i,Zv j k l m] E (fun j7 F=>∃ R S T V,j7=Zv R S T V/\E.le F/\aC P Da #[Zv r s t u,Zv d9 e0 e1 e2] F (fun j8 G=>∃ e3 e4 e5 e6,j8=Zv e3 e4 e5 e6/\F.le G/\aC P Da #[Zv v w x y,Zv R S T V] G (fun j9 H=>∃ e7 e8 e9 f0,j9=Zv e7 e8 e9 f0/\G.le H/\aC P Rq #[Zv e3 e4 e5 e6,Zv e7 e8 e9 f0] H (fun k0 b2=>∃ n o p q,k0=Zv n o p q/\H.le b2/\aC P G2 #[Zv n o p q] b2 (fun k1 b3=>∃ (a6:Bool),k1= .bool a6/\Br a6 (K (Qv false none 0 0 false none 0 0) b3)
 (aC P Bt #[Zv j k l m] b3 (fun k2 J=>∃ (a7:Bool),k2= .bool a7/\Br a7 (aC P Da #[Zv e f g i,Zv a b c d] J (fun k3 L=>∃ f1 f2 f3 f4,k3=Zv f1 f2 f3 f4/\J.le L/\aC P W8 #[Zv n o p q,Zv f1 f2 f3 f4] L (fun k4 b4=>∃ f5 f6 f7 f8 f9 g0 g1 g2,k4=Qv f5 f6 f7 f8 f9 g0 g1 g2/\L.le b4/\K (Qv f5 f6 f7 f8 f9 g0 g1 g2) b4)))
 (aC P Rp #[Zv n o p q,Zv j k l m] J (fun k5 b5=>∃ W X Z a0,k5=Zv W X Z a0/\aC P Om #[Zv n o p q,Zv W X Z a0] b5 (fun k6 M=>∃ g3 g4 g5 g6,k6=Zv g3 g4 g5 g6/\b5.le M/\aC P Om #[Zv a b c d,Zv W X Z a0] M (fun k7 N=>∃ g7 g8 g9 h0,k7=Zv g7 g8 g9 h0/\M.le N/\aC P Da #[Zv R S T V,Zv g7 g8 g9 h0] N (fun k8 O=>∃ h1 h2 h3 h4,k8=Zv h1 h2 h3 h4/\N.le O/\aC P W8 #[Zv g3 g4 g5 g6,Zv h1 h2 h3 h4] O (fun k9 b6=>∃ h5 h6 h7 h8 h9 i0 i1 i2,k9=Qv h5 h6 h7 h8 h9 i0 i1 i2/\O.le b6/\K (Qv h5 h6 h7 h8 h9 i0 i1 i2) b6)))))))))))))))))))
def B89 a b c d e f g i j k l m n o p q(hvc:C3h prog a b c d e f g i j k l m n o p q h K):aC prog A9s #[Qv a b c d e f g i,Qv j k l m n o p q] h K:=
 fnk func102 ⟨[],[(2,⟨[10],[],[.bool false],⟨(Lrg 10 9),[]⟩⟩),(4,⟨[25],[],[.bool false],⟨[25,26,27,28],[]⟩⟩)],[(4,([0,1,2,3,5,6,8,9,4,7,10,11],[])),(6,([0,1,2,3,5,6,8,9,4,7,10,11],[])),(8,([0,1,2,4,5,6,8,9,3,7,10,11],[])),(9,([0,1,2,4,5,6,9,3,7,8,10],[])),(15,([0,1,3,4,5,6,2,7,8,9,10],[]))],[],[]⟩ (Lrg 2 8) [] hvc
def C3e(P:aD)(a:Bool)(b:OA)(c d:Nat)(t:Bool)(u:OA)(v w:Nat)(e:Bool)(f:OA)(g i:Nat)(x:Bool)(y:OA)(z A:Nat)(h:aF)(K:VP):Prop:=
 ∃ (k:LP),(aC P G2 #[Zv a b c d] h (fun d3 a0=>∃ (B:Bool),d3= .bool B/\Br B (k [.bool true] a0)
 (aC P G2 #[Zv e f g i] a0 (fun d4 d5=>∃ (C:Bool),d4= .bool C/\k [.bool C] d5))))/\
 ∀ a3 s,k [.bool a3] s->Br a3 (K (Qv false none 0 0 false none 0 0) s)
 (∃ (l:LP),(aC P G2 #[Zv t u v w] s (fun d6 a1=>∃ (D:Bool),d6= .bool D/\Br D (aC P G2 #[Zv x y z A] a1 (fun d7 d8=>∃ (E:Bool),d7= .bool E/\l [.bool E] d8))
 (l [.bool false] a1)))/\
 ∀ a4 j,l [.bool a4] j->Br a4 (aC P Da #[Zv a b c d,Zv e f g i] j (fun d9 e0=>∃ a5 a6 a7 a8,d9=Zv a5 a6 a7 a8/\K (Qv a5 a6 a7 a8 false none 0 0) e0))
 (aC P Oo #[Qv e f g i x y z A] j (fun e1 m=>∃ a9 b0 b1 b2,e1=Zv a9 b0 b1 b2/\j.le m/\aC P Kr #[Zv a b c d,Zv a9 b0 b1 b2] m (fun e2 n=>∃ (F:Bool) (G:OA) (H J:Nat) (L:Bool) (M:OA) (N O:Nat),e2= .tuple #[Zv F G H J,Zv L M N O]/\m.le n/\aC P Oo #[Qv a b c d t u v w] n (fun e3 o=>∃ b3 b4 b5 b6,e3=Zv b3 b4 b5 b6/\n.le o/\aC P Kr #[Zv e f g i,Zv b3 b4 b5 b6] o (fun e4 p=>∃ (Q:Bool) (R:OA) (S T:Nat) (V:Bool) (W:OA) (X Z:Nat),e4= .tuple #[Zv Q R S T,Zv V W X Z]/\o.le p/\aC P Da #[Zv F G H J,Zv Q R S T] p (fun e5 q=>∃ b7 b8 b9 c0,e5=Zv b7 b8 b9 c0/\p.le q/\aC P Da #[Zv V W X Z,Zv L M N O] q (fun e6 r=>∃ c1 c2 c3 c4,e6=Zv c1 c2 c3 c4/\q.le r/\aC P W8 #[Zv b7 b8 b9 c0,Zv c1 c2 c3 c4] r (fun e7 a2=>∃ c5 c6 c7 c8 c9 d0 d1 d2,e7=Qv c5 c6 c7 c8 c9 d0 d1 d2/\r.le a2/\K (Qv c5 c6 c7 c8 c9 d0 d1 d2) a2)))))))))
def B86 a b c d e f g i j k l m n o p q(hvc:C3e prog a b c d e f g i j k l m n o p q h K):aC prog A5e #[Qv a b c d e f g i,Qv j k l m n o p q] h K:=
 fnk func103 ⟨[],[(2,⟨[16],[],[.bool false],⟨(Lrg 9 8),[]⟩⟩),(4,⟨[25],[],[.bool false],⟨(Lrg 18 8),[]⟩⟩)],[(5,([0,1,2,8,9,3,4,5,6,7,10,11],[])),(6,([0,1,2,8,9,3,4,5,6,7,10,11],[])),(7,([0,1,3,4,2,5,6,7],[]))],[],[]⟩ [2,3,4,5,6,7,8] [] hvc
def A5w(P:aD)(a:Bool)(b:OA)(c d:Nat)(l:Bool)(m:OA)(n o:Nat)(h:aF)(K:VP):Prop:=
 aC P Ng #[Zv a b c d] h (fun a2 e=>∃ k,a2=I k/\Br (k==0) (K (Qv false none 0 0 false none 0 0) e)
 (Br (k==(-1:Int)) (aC P Oo #[Qv a b c d l m n o] e (fun a3 f=>∃ r s t u,a3=Zv r s t u/\e.le f/\aC P On #[Zv r s t u] f (fun a4 g=>∃ v w x y,a4=Zv v w x y/\f.le g/\aC P On #[Zv a b c d] g (fun a5 i=>∃ z A B C,a5=Zv z A B C/\g.le i/\aC P W8 #[Zv v w x y,Zv z A B C] i (fun a6 p=>∃ D E F G H J L M,a6=Qv D E F G H J L M/\i.le p/\K (Qv D E F G H J L M) p)))))
 (aC P Oo #[Qv a b c d l m n o] e (fun a7 j=>∃ N O Q R,a7=Zv N O Q R/\e.le j/\aC P W8 #[Zv N O Q R,Zv a b c d] j (fun a8 q=>∃ S T V W X Z a0 a1,a8=Qv S T V W X Z a0 a1/\j.le q/\K (Qv S T V W X Z a0 a1) q)))))
def A4d a b c d e f g i(hvc:A5w prog a b c d e f g i h K):aC prog Hs #[Qv a b c d e f g i] h K:=
 fnk func220 { orders:=[(5,([0,3,4,1,2,5,6,7],[])),(6,([0,2,3,1,4,5],[]))] } [1,2] [] hvc
def C3f(P:aD)(t:Bool)(u:OA)(v w:Nat)(x:Bool)(y:OA)(z A:Nat)(B:Bool)(C:OA)(D E:Nat)(F:Bool)(G:OA)(H J:Nat)(h:aF)(K:VP):Prop:=
 aC P Hs #[Qv B C D E F G H J] h (fun L a=>∃ c d e f g i j k,L=Qv c d e f g i j k/\h.le a/\aC P A5e #[Qv t u v w x y z A,Qv c d e f g i j k] a (fun M b=>∃ l m n o p q r s,M=Qv l m n o p q r s/\a.le b/\K (Qv l m n o p q r s) b))
def B87 a b c d e f g i j k l m n o p q(hvc:C3f prog a b c d e f g i j k l m n o p q h K):aC prog A5f #[Qv a b c d e f g i,Qv j k l m n o p q] h K:=
 fnk func160 an0 [2,3,4] [] hvc
def C3c(P:aD)(e:Bool)(f:OA)(g i:Nat)(j:Bool)(k:OA)(l m:Nat)(a:Int)(h:aF)(K:VP):Prop:=
 aC P G2 #[Zv j k l m] h (fun L b=>∃ (n:Bool),L= .bool n/\Br n (aC P A1h #[Zv e f g i,U a] b (fun M N=>∃ p q r s,M=Zv p q r s/\K (Qv p q r s false none 0 0) N))
 (aC P A1h #[Zv e f g i,U a] b (fun O c=>∃ t u v w,O=Zv t u v w/\b.le c/\aC P A1h #[Zv j k l m,U a] c (fun Q d=>∃ x y z A,Q=Zv x y z A/\c.le d/\aC P W8 #[Zv t u v w,Zv x y z A] d (fun R o=>∃ B C D E F G H J,R=Qv B C D E F G H J/\d.le o/\K (Qv B C D E F G H J) o)))))
def B84 a b c d e f g i j(hvc:C3c prog a b c d e f g i j h K):aC prog A5d #[Qv a b c d e f g i,U j] h K:=
 fnk func221 { orders:=[(3,([0,1,2,4,5,6,3,7,8,9],[]))] } [2,4] [] hvc
def B5y(P:aD)(a:Bool)(b:OA)(c d:Nat)(e:Bool)(f:OA)(g i:Nat)(h:aF)(K:VP):Prop:=
 aC P G2 #[Zv e f g i] h (fun p k=>∃ (j:Bool),p= .bool j/\Br j (K (Zv a b c d) k)
 (aC P Jc #[Zv a b c d,Zv e f g i] k (fun q r=>∃ l m n o,q=Zv l m n o/\K (Zv l m n o) r)))
def B1c a b c d e f g i(hvc:B5y prog a b c d e f g i h K):aC prog Qc #[Qv a b c d e f g i] h K:=
 fnk func218 an0 [1,2] [] hvc
def C08(P:aD)(r:Bool)(s:OA)(t u:Nat)(v:Bool)(w:OA)(x y:Nat)(h:aF)(K:VP):Prop:=
 aC P A9r #[Qv r s t u v w x y] h (fun z A=>∃ a b c d e f g i,z=Qv a b c d e f g i/\aC P Qc #[Qv a b c d e f g i] A (fun B C=>∃ j k l m,B=Zv j k l m/\aC P On #[Zv j k l m] C (fun D E=>∃ n o p q,D=Zv n o p q/\K (Zv n o p q) E)))
def B4h a b c d e f g i(hvc:C08 prog a b c d e f g i h K):aC prog A3t #[Qv a b c d e f g i] h K:=
 fnk func219 an0 [1,2] [] hvc
