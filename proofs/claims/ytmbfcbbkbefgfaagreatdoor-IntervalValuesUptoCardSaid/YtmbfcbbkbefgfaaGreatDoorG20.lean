/- A part. -/
import Derived.Test.YtmbfcbbkbefgfaaGreatDoorG19
open Go.Proofs.Tryz
set_option linter.all false
open _root_.ByteArray renaming toList->aE,size->aG
open _root_.Go renaming Program->aD
open _root_.Go.Proofs.YtmbfcbbkbefgfaaGreatDoor renaming FCall->aC,Heap->aF
namespace Go.Proofs.YtmbfcbbkbefgfaaGreatDoor
open Go
set_option maxRecDepth 100000
variable {h:aF} {K:VP}
abbrev Ke:Nat:=149
abbrev X3:Nat:=229
abbrev W9:Nat:=148
abbrev Ai:Nat:=193
abbrev V8:Nat:=226
abbrev A3q:Nat:=227
abbrev Hu:Nat:=196
abbrev Q3:Nat:=194
abbrev B9b:Nat:=159
abbrev Ir:Nat:=170
abbrev Q1:Nat:=185
abbrev Kg:Nat:=186
abbrev Qu:Nat:=181
abbrev K8:Nat:=195
abbrev Dy:Nat:=76
abbrev Uk:Nat:=189
abbrev L6:Nat:=109
abbrev C1o:Nat:=266
abbrev A05:Nat:=108
abbrev C1n:Nat:=123
abbrev Kf:Nat:=122
abbrev A3r:Nat:=136
abbrev A04:Nat:=139
abbrev Xa:Nat:=137
abbrev A2d:Nat:=138
abbrev Wz:Nat:=140
abbrev A85:Nat:=202
abbrev Hv:Nat:=187
abbrev T2:Nat:=104
abbrev Me:Nat:=92
abbrev Cu:Nat:=158
abbrev B9f:Nat:=349
abbrev Mf:Nat:=197
abbrev A86:Nat:=247
abbrev A87:Nat:=102
abbrev C1p:Nat:=180
abbrev A3t:Nat:=103
abbrev Hf:Nat:=220
abbrev A3u:Nat:=160
abbrev A3s:Nat:=221
abbrev Pd:Nat:=218
abbrev A2e:Nat:=219
abbrev A6j:Nat:=303
def B3w(P:aD)(p:ByteArray)(h:aF)(K:VP):Prop:=
 aC P Ft #[.string p,.string ({ data:=#[45] }:ByteArray)] h (fun q r=>∃ (j:ByteArray) (b:Bool),q= .tuple #[.string j,.bool b]/\aC P X3 #[.string j] r (fun s f=>∃ (a d:ByteArray),s= .tuple #[.string a,.string d]/\Br (a.toList==aE ({ data:=#[48] }:ByteArray)) (Br (!b) (K (.tuple #[.agg #[.bool b,.string a,.string ({ data:=#[] }:ByteArray)],.bool (d.toList==aE ({ data:=#[] }:ByteArray))]) f)
 (K (.tuple #[.agg #[.bool b,.string a,.string ({ data:=#[] }:ByteArray)],.bool false]) f))
 (∃ (i:LP),(Br (a.toList==aE ({ data:=#[] }:ByteArray)) (i [.bool true] f)
 (∃ (k:UInt8),(0<=(0:Int)/\(a)[((0:Int)).toNat]? = some k)/\i [.bool (((k.toNat:Nat):Int)==48)] f))/\
 ∀ o e,i [.bool o] e->Br o (K (.tuple #[.agg #[.bool b,.string a,.string ({ data:=#[] }:ByteArray)],.bool false]) e)
 (Br (d.toList==aE ({ data:=#[] }:ByteArray)) (K (.tuple #[.agg #[.bool b,.string a,.string ({ data:=#[] }:ByteArray)],.bool true]) e)
 (∃ (l:UInt8),(0<=(0:Int)/\(d)[((0:Int)).toNat]? = some l)/\Br (((l.toNat:Nat):Int) != 47) (K (.tuple #[.agg #[.bool b,.string a,.string ({ data:=#[] }:ByteArray)],.bool false]) e)
 ((0<=(1:Int)/\(1:Int)<=(((d).size:Nat):Int))/\aC P X3 #[.string ((d).extract (((1:Int)).toNat) ((d).size))] e (fun t g=>∃ (c m:ByteArray),t= .tuple #[.string c,.string m]/\Br (m.toList==aE ({ data:=#[] }:ByteArray)) (Br (!(c.toList==aE ({ data:=#[] }:ByteArray))) (∃ (n:UInt8),(0<=(0:Int)/\(c)[((0:Int)).toNat]? = some n)/\Br (((n.toNat:Nat):Int) != 48) (K (.tuple #[.agg #[.bool b,.string a,.string c],.bool (!(c.toList==aE ({ data:=#[49] }:ByteArray)))]) g)
 (K (.tuple #[.agg #[.bool b,.string a,.string c],.bool false]) g))
 (K (.tuple #[.agg #[.bool b,.string a,.string c],.bool false]) g))
 (K (.tuple #[.agg #[.bool b,.string a,.string c],.bool false]) g))))))))
def A9i a(hvc:B3w prog a h K):aC prog Ke #[.string a] h K:=
 fnk func149 { cuts:=[(8,⟨[31],[],[.bool false],⟨(Lrg 31 10),[]⟩⟩)] } [2,4] [] hvc
def Ux(P:aD)(b:ByteArray)(h:aF)(K:VP):Prop:=
 ∃ (e:LP),(∃ (f:LP) (g:LN),f [I 0] h/\
 ∀ a c,f [I a] c->Bd (a<((aG b:Nat):Int)) (∃ (i:UInt8),(0<=a/\(b)[a.toNat]? = some i)/\Bd ((48:Int)<=((i.toNat:Nat):Int)) (∃ (j:UInt8),(0<=a/\(b)[a.toNat]? = some j)/\Bd (((j.toNat:Nat):Int)<=57) (f [I (B4 (a+1))] c/\g [I (B4 (a+1))] c<g [I a] c)
 (e [I a] c))
 (e [I a] c))
 (e [I a] c))/\
 ∀ d k,e [I d] k->(0<=d/\d<=(((b).size:Nat):Int))/\(0<=d/\d<=(((b).size:Nat):Int))/\K (.tuple #[.string ((b).extract 0 (d.toNat)),.string ((b).extract (d.toNat) ((b).size))]) k
def Xw a(hvc:Ux prog a h K):aC prog X3 #[.string a] h K:=
 fnk func229 ⟨[(2,⟨[4],[],[I 0],⟨(Lrg 4 19),[]⟩⟩)],[(4,⟨[4],[],[I 0],⟨(Lrg 4 19),[]⟩⟩)],[],[],[]⟩ [] [] hvc
def Uw(P:aD)(n:ByteArray)(h:aF)(K:VP):Prop:=
 Bd (((aG n:Nat):Int)>20) (K (.tuple #[.agg #[I 0,I 0],.bool false]) h)
 (aC P Ke #[.string n] h (fun x g=>∃ (o:Bool) (d a:ByteArray) (p:Bool),x= .tuple #[.agg #[.bool o,.string d,.string a],.bool p]/\∃ (b:LP),(Br (!p) (b [.bool true] g)
 (Bd (((aG d:Nat):Int)>9) (b [.bool true] g)
 (b [.bool (decide (((aG a:Nat):Int)>9))] g)))/\
 ∀ s i,b [.bool s] i->Br s (K (.tuple #[.agg #[I 0,I 0],.bool false]) i)
 (aC P V8 #[.string d] i (fun y q=>∃ c,y=I c/\∃ (e:LP),(Br (!(a.toList==aE ({ data:=#[] }:ByteArray))) (aC P V8 #[.string a] q (fun z A=>∃ j,z=I j/\aC P A3q #[I c,I j] A (fun B r=>∃ t,B=I t/\Br (t != 1) (K (.tuple #[.agg #[I 0,I 0],.bool false]) r)
 (e [I 0,I 0,I c,I j] r))))
 (e [I 0,I 0,I c,I 1] q))/\
 ∀ C D k l m,e [I C,I D,I k,I l] m->∃ (f:LP),(Br o (f [I (B4 (0-k)),I l] m)
 (f [I k,I l] m))/\
 ∀ u v w,f [I u,I v] w->K (.tuple #[.agg #[I u,I v],.bool true]) w))))
def Xv a(hvc:Uw prog a h K):aC prog W9 #[.string a] h K:=
 fnk func148 { cuts:=[(5,⟨[29],[],[.bool false],⟨(Lrg 16 14),[]⟩⟩),(11,⟨[],[(2,2),(6,2)],[I 0,I 0,I 0,I 0],⟨([3]++Lrg 35 14),[2,6]⟩⟩),(13,⟨[],[(6,2)],[I 0,I 0],⟨[49,50,51,52,53,54],[6]⟩⟩)] } [2,4,6] [] hvc
def A47(P:aD)(j k:ByteArray)(h:aF)(K:VP):Prop:=
 aC P W9 #[.string j] h (fun l g=>∃ (a:Int) (b:Int) (c:Bool),l= .tuple #[.agg #[I a,I b],.bool c]/\Br (!c) (K (.tuple #[.agg #[I 0,I 0],.agg #[I 0,I 0],.bool false]) g)
 (aC P W9 #[.string k] g (fun m i=>∃ (d:Int) (e:Int) (f:Bool),m= .tuple #[.agg #[I d,I e],.bool f]/\Br (!f) (K (.tuple #[.agg #[I 0,I 0],.agg #[I 0,I 0],.bool false]) i)
 (K (.tuple #[.agg #[I a,I b],.agg #[I d,I e],.bool true]) i))))
def A2t a b(hvc:A47 prog a b h K):aC prog Ai #[.string a,.string b] h K:=
 fnk func193 an0 [4,5,7,9] [] hvc
def Of(P:aD)(f:ByteArray)(h:aF)(K:VP):Prop:=
 ∃ (d:LP) (g:LN),d [I 0,I 0] h/\
 ∀ b a c,d [I b,I a] c->Bd (a<((aG f:Nat):Int)) (∃ (e:UInt8),(0<=a/\(f)[a.toNat]? = some e)/\d [I (B4 ((B4 ((10:Int)*b))+(B4 (wu8 (((e.toNat:Nat):Int)-48))))),I (B4 (a+1))] c/\g [I (B4 ((B4 ((10:Int)*b))+(B4 (wu8 (((e.toNat:Nat):Int)-48))))),I (B4 (a+1))] c<g [I b,I a] c)
 (K (I b) c)
def Sf a(hvc:Of prog a h K):aC prog V8 #[.string a] h K:=
 fnk func226 { loops:=[(3,⟨[3,7],[],[I 0,I 0],⟨([3,4]++Lrg 7 12),[]⟩⟩)] } [] [] hvc
def C2b(P:aD)(f:Int)(g:Int)(h:aF)(K:VP):Prop:=
 ∃ (d:LP) (e:LN),d [I f,I g] h/\
 ∀ b a c,d [I b,I a] c->Br (a != 0) (Bd (a=0) False
 (d [I a,I (Int.tmod b a)] c/\e [I a,I (Int.tmod b a)] c<e [I b,I a] c))
 (K (I b) c)
def B65 a b(hvc:C2b prog a b h K):aC prog A3q #[I a,I b] h K:=
 fnk func227 { loops:=[(1,⟨[0,1],[],[I 0,I 0],⟨[0,1,5,6,7,8,9,10],[]⟩⟩)] } [] [] hvc
def Og(P:aD)(b:Int)(c:Int)(h:aF)(K:VP):Prop:=
 aC P Mj #[I b,I c] h (fun d e=>∃ a,d=I a/\K (I a) e)
def Sg a b(hvc:Og prog a b h K):aC prog Hu #[I a,I b] h K:=
 fnk func196 an0 [] [] hvc
def Oe(P:aD)(l:Int)(d:Int)(h:aF)(K:VP):Prop:=
 ∃ (e:LP),(Bd (d<0) (e [I (B4 (0-l)),I (B4 (0-d))] h)
 (e [I l,I d] h))/\
 ∀ a b g,e [I a,I b] g->∃ (f:LP),(Br (b != 1) (aC P A3q #[I (if (B4 (0-a))>a then B4 (0-a) else a),I b] g (fun B C=>∃ c,B=I c/\Bd (c=0) False
 (Bd (c=0) False
 (f [I (B4 (Int.tdiv a c)),I (B4 (Int.tdiv b c))] C))))
 (f [I a,I b] g))/\
 ∀ i j k,f [I i,I j] k->Br (j==1) (aC P Bq #[I i,I 10] k (fun D E=>∃ (m:ByteArray),D= .string m/\K (.string m) E))
 (wpH P (Instr.alloc 303 true (T0)) (fun F G=>∃ (n:Addr),F=Pt n/\(0<=(0:Int)/\(0:Int)<=(48:Int))/\aC P Bs #[.slice (J6 (some n) 48 0 1) ((((0:Int)).toNat)-0) (48-0),I i,I 10] G (fun H J=>∃ p q r,H=Sl p q r/\wpH P (Instr.buildSlice 248 1 #[(0,Y (47:Int))]) (fun L M=>∃ s t u,L=Sl s t u/\wpH P (Builtin.append_ #[248,248] 248 #[Sl p q r,Sl s t u]) (fun N O=>∃ v w x,N=Sl v w x/\aC P Bs #[Sl v w x,I j,I 10] O (fun Q R=>∃ y z A,Q=Sl y z A/\wpH P (convert 248 9 (.slice y z A)) (fun S T=>∃ (o:ByteArray),S= .string o/\K (.string o) T) R)) M) J)) k)
def Se a b(hvc:Oe prog a b h K):aC prog Q3 #[I a,I b] h K:=
 fnk func194 { cuts:=[(3,⟨[0,1],[],[I 0,I 0],⟨[0,1,8,9,10,11,12,13],[]⟩⟩),(6,⟨[0,1],[],[I 0,I 0],⟨([0,1,5]++Lrg 14 14),[]⟩⟩)] } [] [253] hvc
def A0t(P:aD)(r:Bool)(s:OA)(t u:Nat)(j:Bool)(k:OA)(l m:Nat)(h:aF)(K:VP):Prop:=
 ∃ (v:LP),(aC P E4 #[Zv j k l m] h (fun c4 G=>∃ (C:Bool),c4= .bool C/\Br C (v [.bool true] G)
 (aC P E4 #[Zv r s t u] G (fun c5 c6=>∃ (D:Bool),c5= .bool D/\v [.bool D] c6))))/\
 ∀ M B,v [.bool M] B->Br M (K (Qv false none 0 0 false none 0 0) B)
 (∃ (w:LP),(aC P Im #[Zv j k l m] B (fun c7 x=>∃ N,c7=I N/\Bd (N<0) (aC P Ht #[Zv r s t u] x (fun c8 y=>∃ O Q R S,c8=Zv O Q R S/\x.le y/\aC P Ht #[Zv j k l m] y (fun c9 H=>∃ T V W X,c9=Zv T V W X/\y.le H/\w [.bool O,.slice Q R S,.bool T,.slice V W X] H)))
 (w [.bool r,.slice s t u,.bool j,.slice k l m] x)))/\
 ∀ a b c d e f g i Z,w [.bool a,.slice b c d,.bool e,.slice f g i] Z->aC P V6 #[Zv e f g i] Z (fun d0 J=>∃ (E:Bool),d0= .bool E/\Br E (K (Qv a b c d false none 0 0) J)
 (aC P Ns #[Zv a b c d,Zv e f g i] J (fun d1 d2=>∃ n o p q,d1=Zv n o p q/\aC P V6 #[Zv n o p q] d2 (fun d3 z=>∃ (F:Bool),d3= .bool F/\Br (!F) (aC P Fp #[Zv a b c d,Zv n o p q] z (fun d4 A=>∃ a0 a1 a2 a3,d4=Zv a0 a1 a2 a3/\z.le A/\aC P Fp #[Zv e f g i,Zv n o p q] A (fun d5 L=>∃ a4 a5 a6 a7,d5=Zv a4 a5 a6 a7/\A.le L/\aC P Q1 #[Zv a0 a1 a2 a3,Zv a4 a5 a6 a7] L (fun d6 d7=>∃ a8 a9 b0 b1 b2 b3 b4 b5,d6=Qv a8 a9 b0 b1 b2 b3 b4 b5/\K (Qv a8 a9 b0 b1 b2 b3 b4 b5) d7))))
 (aC P Q1 #[Zv a b c d,Zv e f g i] z (fun d8 d9=>∃ b6 b7 b8 b9 c0 c1 c2 c3,d8=Qv b6 b7 b8 b9 c0 c1 c2 c3/\K (Qv b6 b7 b8 b9 c0 c1 c2 c3) d9)))))))
def A0s a b c d e f g i(hvc:A0t prog a b c d e f g i h K):aC prog Ir #[Zv a b c d,Zv e f g i] h K:=
 fnk func170 ⟨[],[(2,⟨[11],[],[.bool false],⟨[6,7,8,9,10,11],[]⟩⟩),(5,⟨[],[(2,2),(3,2)],[.bool false,N0,.bool false,N0],⟨[13,14,15,16,17,18,19],[2,3]⟩⟩)],[(4,([0,2,1,3,4,5],[])),(9,([0,1,3,4,2,5,6,7],[]))],[],[]⟩ [2,3,4,5] [] hvc
def A9j(P:aD)(a:Bool)(b:OA)(c d:Nat)(e:Bool)(f:OA)(g i:Nat)(h:aF)(K:VP):Prop:=
 aC P V6 #[Zv e f g i] h (fun l k=>∃ (j:Bool),l= .bool j/\Br j (K (Qv a b c d false none 0 0) k)
 (K (Qv a b c d e f g i) k))
def A5m a b c d e f g i(hvc:A9j prog a b c d e f g i h K):aC prog Q1 #[Zv a b c d,Zv e f g i] h K:=
 fnk func185 an0 [2,3,4] [] hvc
def A9l(P:aD)(e:Bool)(f:OA)(g i:Nat)(a:Bool)(b:OA)(c d:Nat)(h:aF)(K:VP):Prop:=
 aC P V6 #[Zv a b c d] h (fun A p=>∃ (o:Bool),A= .bool o/\Br o (K (.tuple #[Zv e f g i,Zv a b c d]) p)
 (aC P Ns #[Zv e f g i,Zv a b c d] p (fun B q=>∃ k l m n,B=Zv k l m n/\aC P Fp #[Zv e f g i,Zv k l m n] q (fun C j=>∃ s t u v,C=Zv s t u v/\q.le j/\aC P Fp #[Zv a b c d,Zv k l m n] j (fun D r=>∃ w x y z,D=Zv w x y z/\j.le r/\K (.tuple #[Zv s t u v,Zv w x y z]) r)))))
def A5n a b c d e f g i(hvc:A9l prog a b c d e f g i h K):aC prog Kg #[Zv a b c d,Zv e f g i] h K:=
 fnk func186 { orders:=[(4,([0,1,3,4,2,5,6,7],[]))] } [2,3,4,5,6] [] hvc
def B8x(P:aD)(L:ByteArray)(h:aF)(K:VP):Prop:=
 aC P Ke #[.string L] h (fun M u=>∃ (q:Bool) (r e:ByteArray) (s:Bool),M= .tuple #[.agg #[.bool q,.string r,.string e],.bool s]/\Br (!s) (K (.tuple #[Qv false none 0 0 false none 0 0,.bool false]) u)
 (aC P He #[.string r] u (fun N v=>∃ g i j k,N=Zv g i j k/\∃ (f:LP),(Br q (aC P Ht #[Zv g i j k] v (fun O Q=>∃ x y z A,O=Zv x y z A/\f [.bool x,.slice y z A,.bool false,N0] Q))
 (f [.bool g,.slice i j k,.bool false,N0] v))/\
 ∀ a b c d B C D E l,f [.bool a,.slice b c d,.bool B,.slice C D E] l->Br (e.toList==aE ({ data:=#[] }:ByteArray)) (K (.tuple #[Qv a b c d B C D E,.bool true]) l)
 (aC P He #[.string e] l (fun R S=>∃ m n o p,R=Zv m n o p/\aC P Ns #[Zv a b c d,Zv m n o p] S (fun T V=>∃ F G H J,T=Zv F G H J/\aC P V6 #[Zv F G H J] V (fun W w=>∃ (t:Bool),W= .bool t/\Br (!t) (K (.tuple #[Qv false none 0 0 false none 0 0,.bool false]) w)
 (K (.tuple #[Qv a b c d m n o p,.bool true]) w))))))))
def B2n a(hvc:B8x prog a h K):aC prog Qu #[.string a] h K:=
 fnk func181 { cuts:=[(7,⟨[],[(6,4)],[.bool false,N0,.bool false,N0],⟨[19,20,21,22,23,24],[6]⟩⟩)] } [2,4,6] [] hvc
def B3u(P:aD)(j:ByteArray)(h:aF)(K:VP):Prop:=
 aC P Qu #[.string j] h (fun l m=>∃ (a:Bool) (b:OA) (c d:Nat) (e:Bool) (f:OA) (g i:Nat) (k:Bool),l= .tuple #[Qv a b c d e f g i,.bool k]/\K (Qv a b c d e f g i) m)
def A9g a(hvc:B3u prog a h K):aC prog K8 #[.string a] h K:=
 fnk func195 an0 [2,3] [] hvc
def B3v(P:aD)(g:ByteArray)(h:aF)(K:VP):Prop:=
 aC P W9 #[.string g] h (fun C l=>∃ (z:Int) (A:Int) (i:Bool),C= .tuple #[.agg #[I z,I A],.bool i]/\Br i (K (.bool true) l)
 (aC P Ke #[.string g] l (fun D b=>∃ (B:Bool) (j c:ByteArray) (a:Bool),D= .tuple #[.agg #[.bool B,.string j,.string c],.bool a]/\Br (!a) (K (.bool a) b)
 (Br (c.toList==aE ({ data:=#[] }:ByteArray)) (K (.bool a) b)
 (aC P He #[.string j] b (fun E d=>∃ n o p q,E=Zv n o p q/\b.le d/\aC P He #[.string c] d (fun F e=>∃ r s t u,F=Zv r s t u/\d.le e/\aC P Ns #[Zv n o p q,Zv r s t u] e (fun G f=>∃ v w x y,G=Zv v w x y/\e.le f/\aC P V6 #[Zv v w x y] f (fun H m=>∃ (k:Bool),H= .bool k/\f.le m/\K (.bool k) m)))))))))
def A9h a(hvc:B3v prog a h K):aC prog Dy #[.string a] h K:=
 fnk func76 { orders:=[(7,([0,1,3,4,2,5,6,7,8],[]))] } [3,5] [] hvc
def A49(P:aD)(b:Int)(h:aF)(K:VP):Prop:=
 aC P Bq #[I b,I 10] h (fun c d=>∃ (a:ByteArray),c= .string a/\K (.string a) d)
def A2v a(hvc:A49 prog a h K):aC prog Uk #[I a] h K:=
 fnk func189 an0 [] [] hvc
def A4a(P:aD)(a b:ByteArray)(h:aF)(K:VP):Prop:=
 aC P Ai #[.string a,.string b] h (fun B i=>∃ (c:Int) (d:Int) (e:Int) (f:Int) (g:Bool),B= .tuple #[.agg #[I c,I d],.agg #[I e,I f],.bool g]/\Br g (aC P Hu #[I (B4 (c*f)),I (B4 (e*d))] i (fun C D=>∃ j,C=I j/\K (I j) D))
 (aC P K8 #[.string a] i (fun E F=>∃ k l m n o p q r,E=Qv k l m n o p q r/\aC P K8 #[.string b] F (fun G H=>∃ s t u v w x y z,G=Qv s t u v w x y z/\aC P Mf #[Qv k l m n o p q r,Qv s t u v w x y z] H (fun J L=>∃ A,J=I A/\K (I A) L)))))
def A2w a b(hvc:A4a prog a b h K):aC prog L6 #[.string a,.string b] h K:=
 fnk func109 an0 [5,6] [] hvc
def C2d(P:aD)(c d:ByteArray)(h:aF)(K:VP):Prop:=
 aC P Ai #[.string c,.string d] h (fun L k=>∃ (e:Int) (a:Int) (f:Int) (b:Int) (g:Bool),L= .tuple #[.agg #[I e,I a],.agg #[I f,I b],.bool g]/\Br g (aC P Q3 #[I (B4 ((B4 (e*b))+(B4 (f*a)))),I (B4 (a*b))] k (fun M N=>∃ (i:ByteArray),M= .string i/\K (.string i) N))
 (aC P K8 #[.string c] k (fun O Q=>∃ l m n o p q r s,O=Qv l m n o p q r s/\aC P K8 #[.string d] Q (fun R S=>∃ t u v w x y z A,R=Qv t u v w x y z A/\aC P A87 #[Qv l m n o p q r s,Qv t u v w x y z A] S (fun T V=>∃ B C D E F G H J,T=Qv B C D E F G H J/\aC P T2 #[Qv B C D E F G H J] V (fun W X=>∃ (j:ByteArray),W= .string j/\K (.string j) X))))))
def B67 a b(hvc:C2d prog a b h K):aC prog A05 #[.string a,.string b] h K:=
 fnk func108 an0 [5,6] [] hvc
def C2a(P:aD)(a b:ByteArray)(h:aF)(K:VP):Prop:=
 aC P Ai #[.string a,.string b] h (fun L k=>∃ (c:Int) (d:Int) (e:Int) (f:Int) (g:Bool),L= .tuple #[.agg #[I c,I d],.agg #[I e,I f],.bool g]/\Br g (aC P Q3 #[I (B4 (c*e)),I (B4 (d*f))] k (fun M N=>∃ (i:ByteArray),M= .string i/\K (.string i) N))
 (aC P K8 #[.string a] k (fun O Q=>∃ l m n o p q r s,O=Qv l m n o p q r s/\aC P K8 #[.string b] Q (fun R S=>∃ t u v w x y z A,R=Qv t u v w x y z A/\aC P A3t #[Qv l m n o p q r s,Qv t u v w x y z A] S (fun T V=>∃ B C D E F G H J,T=Qv B C D E F G H J/\aC P T2 #[Qv B C D E F G H J] V (fun W X=>∃ (j:ByteArray),W= .string j/\K (.string j) X))))))
def B64 a b(hvc:C2a prog a b h K):aC prog Kf #[.string a,.string b] h K:=
 fnk func122 an0 [5,6] [] hvc
def C2c(P:aD)(p q:ByteArray)(h:aF)(K:VP):Prop:=
 aC P Ai #[.string p,.string q] h (fun V y=>∃ (r:Int) (s:Int) (a:Int) (t:Int) (u:Bool),V= .tuple #[.agg #[I r,I s],.agg #[I a,I t],.bool u]/\∃ (b:LP),(Br u (b [.bool (a != 0)] y)
 (b [.bool false] y))/\
 ∀ A f,b [.bool A] f->Br A (aC P Q3 #[I (B4 (r*t)),I (B4 (s*a))] f (fun W X=>∃ (v:ByteArray),W= .string v/\K (.tuple #[.string v,.bool true]) X))
 (aC P K8 #[.string q] f (fun Z a0=>∃ g i j k l m n o,Z=Qv g i j k l m n o/\aC P Cu #[Qv g i j k l m n o] a0 (fun a1 c=>∃ (w:Bool),a1= .bool w/\Br w (K (.tuple #[.string ({ data:=#[] }:ByteArray),.bool false]) c)
 (aC P K8 #[.string p] c (fun a2 d=>∃ B C D E F G H J,a2=Qv B C D E F G H J/\c.le d/\aC P A3u #[Qv B C D E F G H J,Qv g i j k l m n o] d (fun a3 e=>∃ L M N O Q R S T,a3=Qv L M N O Q R S T/\d.le e/\aC P T2 #[Qv L M N O Q R S T] e (fun a4 z=>∃ (x:ByteArray),a4= .string x/\e.le z/\K (.tuple #[.string x,.bool true]) z))))))))
def B66 a b(hvc:C2c prog a b h K):aC prog A3r #[.string a,.string b] h K:=
 fnk func136 ⟨[],[(3,⟨[22],[],[.bool false],⟨[17,18,19,20,21,22],[]⟩⟩)],[(7,([0,2,1,3,4,5,6],[]))],[],[]⟩ [6,7,9] [] hvc
def C29(P:aD)(Q:ByteArray)(a:Int)(h:aF)(K:VP):Prop:=
 Bd (a<(-1000:Int)) (K (.tuple #[.string ({ data:=#[] }:ByteArray),.bool false]) h)
 (Bd (a>1000) (K (.tuple #[.string ({ data:=#[] }:ByteArray),.bool false]) h)
 (aC P K8 #[.string Q] h (fun R n=>∃ b c d e f g i j,R=Qv b c d e f g i j/\Bd (a<0) (aC P Cu #[Qv b c d e f g i j] n (fun S o=>∃ (k:Bool),S= .bool k/\Br k (K (.tuple #[.string ({ data:=#[] }:ByteArray),.bool false]) o)
 (aC P Hf #[Qv b c d e f g i j] o (fun T V=>∃ p q r s t u v w,T=Qv p q r s t u v w/\aC P A3s #[Qv p q r s t u v w,U (C0 (B4 (0-a)))] V (fun W X=>∃ x y z A B C D E,W=Qv x y z A B C D E/\aC P T2 #[Qv x y z A B C D E] X (fun Z a0=>∃ (l:ByteArray),Z= .string l/\K (.tuple #[.string l,.bool true]) a0))))))
 (aC P A3s #[Qv b c d e f g i j,U (C0 a)] n (fun a1 a2=>∃ F G H J L M N O,a1=Qv F G H J L M N O/\aC P T2 #[Qv F G H J L M N O] a2 (fun a3 a4=>∃ (m:ByteArray),a3= .string m/\K (.tuple #[.string m,.bool true]) a4))))))
def B63 a b(hvc:C29 prog a b h K):aC prog A04 #[.string a,I b] h K:=
 fnk func139 an0 [6] [] hvc
def B3x(P:aD)(o:ByteArray)(h:aF)(K:VP):Prop:=
 aC P K8 #[.string o] h (fun p q=>∃ b c d e f g i j,p=Qv b c d e f g i j/\aC P Pd #[Qv b c d e f g i j] q (fun r s=>∃ k l m n,r=Zv k l m n/\aC P Fo #[Zv k l m n] s (fun t u=>∃ (a:ByteArray),t= .string a/\K (.string a) u)))
def A9k a(hvc:B3x prog a h K):aC prog Xa #[.string a] h K:=
 fnk func137 an0 [] [] hvc
def B8y(P:aD)(o:ByteArray)(h:aF)(K:VP):Prop:=
 aC P K8 #[.string o] h (fun p q=>∃ b c d e f g i j,p=Qv b c d e f g i j/\aC P A2e #[Qv b c d e f g i j] q (fun r s=>∃ k l m n,r=Zv k l m n/\aC P Fo #[Zv k l m n] s (fun t u=>∃ (a:ByteArray),t= .string a/\K (.string a) u)))
def B2o a(hvc:B8y prog a h K):aC prog A2d #[.string a] h K:=
 fnk func138 an0 [] [] hvc
def B8w(P:aD)(a:ByteArray)(h:aF)(K:VP):Prop:=
 Br (a.toList==aE ({ data:=#[48] }:ByteArray)) (K (I 0) h)
 (aC P Dy #[.string a] h (fun e b=>∃ (c:Bool),e= .bool c/\Br (!c) (K (I 0) b)
 (∃ (d:UInt8),(0<=(0:Int)/\(a)[((0:Int)).toNat]? = some d)/\Br (((d.toNat:Nat):Int)==45) (K (I (-1:Int)) b)
 (K (I 1) b))))
def B2m a(hvc:B8w prog a h K):aC prog Wz #[.string a] h K:=
 fnk func140 an0 [] [] hvc
def C2g(P:aD)(a:Bool)(b:OA)(c d:Nat)(e:Bool)(f:OA)(g i:Nat)(h:aF)(K:VP):Prop:=
 K (Zv a b c d) h
def B6b a b c d e f g i(hvc:C2g prog a b c d e f g i h K):aC prog A85 #[Qv a b c d e f g i] h K:=
 fnk func202 an0 [1,2] [] hvc
def C2k(P:aD)(o:Bool)(p:OA)(q r:Nat)(a:Bool)(b:OA)(c d:Nat)(h:aF)(K:VP):Prop:=
 aC P E4 #[Zv a b c d] h (fun l f=>∃ (e:Bool),l= .bool e/\Br e (aC P A03 #[I 1] f (fun m n=>∃ g i j k,m=Zv g i j k/\K (Zv g i j k) n))
 (K (Zv a b c d) f))
def B6f a b c d e f g i(hvc:C2k prog a b c d e f g i h K):aC prog Hv #[Qv a b c d e f g i] h K:=
 fnk func187 an0 [1,2] [] hvc
def A9o(P:aD)(a:Bool)(b:OA)(c d:Nat)(e:Bool)(f:OA)(g i:Nat)(h:aF)(K:VP):Prop:=
 aC P E4 #[Zv e f g i] h (fun D p=>∃ (j:Bool),D= .bool j/\Br j (aC P Ww #[Zv a b c d] p (fun E q=>∃ (k:Int) (l:Bool),E= .tuple #[I k,.bool l]/\Br l (aC P Uk #[I k] q (fun F G=>∃ (m:ByteArray),F= .string m/\K (.string m) G))
 (aC P Fo #[Zv a b c d] q (fun H J=>∃ (n:ByteArray),H= .string n/\K (.string n) J))))
 (aC P Fq #[Zv a b c d,Sl none 0 0] p (fun L M=>∃ r s t,L=Sl r s t/\wpH P (Instr.buildSlice 248 1 #[(0,Y (47:Int))]) (fun N O=>∃ u v w,N=Sl u v w/\wpH P (Builtin.append_ #[248,248] 248 #[Sl r s t,Sl u v w]) (fun Q R=>∃ x y z,Q=Sl x y z/\aC P Fq #[Zv e f g i,Sl x y z] R (fun S T=>∃ A B C,S=Sl A B C/\wpH P (convert 248 9 (.slice A B C)) (fun V W=>∃ (o:ByteArray),V= .string o/\K (.string o) W) T)) O) M)))
def A5o a b c d e f g i(hvc:A9o prog a b c d e f g i h K):aC prog T2 #[Qv a b c d e f g i] h K:=
 fnk func104 an0 [1] [] hvc
def B8z(P:aD)(b:Bool)(c:OA)(d e:Nat)(i:Bool)(j:OA)(k l:Nat)(h:aF)(K:VP):Prop:=
 aC P Im #[Zv b c d e] h (fun f g=>∃ a,f=I a/\K (I a) g)
def B2p a b c d e f g i(hvc:B8z prog a b c d e f g i h K):aC prog Me #[Qv a b c d e f g i] h K:=
 fnk func92 an0 [1] [] hvc
def A9q(P:aD)(b:Bool)(c:OA)(d e:Nat)(i:Bool)(j:OA)(k l:Nat)(h:aF)(K:VP):Prop:=
 aC P E4 #[Zv b c d e] h (fun f g=>∃ (a:Bool),f= .bool a/\K (.bool a) g)
def A5q a b c d e f g i(hvc:A9q prog a b c d e f g i h K):aC prog Cu #[Qv a b c d e f g i] h K:=
 fnk func158 an0 [1] [] hvc
def A4c(P:aD)(a:Bool)(b:OA)(c d:Nat)(k:Bool)(l:OA)(m n:Nat)(e:Bool)(f:OA)(g i:Nat)(o:Bool)(p:OA)(q r:Nat)(h:aF)(K:VP):Prop:=
 ∃ (s:LP),(aC P E4 #[Zv k l m n] h (fun a8 j=>∃ (B:Bool),a8= .bool B/\h.le j/\Br B (aC P E4 #[Zv o p q r] j (fun a9 t=>∃ (C:Bool),a9= .bool C/\j.le t/\Br C (s [.bool true] t)
 (aC P Me #[Qv a b c d k l m n] t (fun b0 v=>∃ G,b0=I G/\t.le v/\aC P Me #[Qv e f g i o p q r] v (fun b1 D=>∃ H,b1=I H/\v.le D/\s [.bool (G != H)] D)))))
 (aC P Me #[Qv a b c d k l m n] j (fun b2 w=>∃ J,b2=I J/\j.le w/\aC P Me #[Qv e f g i o p q r] w (fun b3 E=>∃ L,b3=I L/\w.le E/\s [.bool (J != L)] E)))))/\
 ∀ M u,s [.bool M] u->Br M (aC P Hc #[Zv a b c d,Zv e f g i] u (fun b4 b5=>∃ N,b4=I N/\K (I N) b5))
 (aC P Hv #[Qv e f g i o p q r] u (fun b6 x=>∃ O Q R S,b6=Zv O Q R S/\u.le x/\aC P T7 #[Zv a b c d,Zv O Q R S] x (fun b7 y=>∃ T V W X,b7=Zv T V W X/\x.le y/\aC P Hv #[Qv a b c d k l m n] y (fun b8 z=>∃ Z a0 a1 a2,b8=Zv Z a0 a1 a2/\y.le z/\aC P T7 #[Zv e f g i,Zv Z a0 a1 a2] z (fun b9 A=>∃ a3 a4 a5 a6,b9=Zv a3 a4 a5 a6/\z.le A/\aC P Hc #[Zv T V W X,Zv a3 a4 a5 a6] A (fun c0 F=>∃ a7,c0=I a7/\A.le F/\K (I a7) F))))))
def A2y a b c d e f g i j k l m n o p q(hvc:A4c prog a b c d e f g i j k l m n o p q h K):aC prog Mf #[Qv a b c d e f g i,Qv j k l m n o p q] h K:=
 fnk func197 ⟨[],[(2,⟨[19],[],[.bool false],⟨(Lrg 5 15),[]⟩⟩)],[(1,((Lrg 0 10++[11,10,12,13,14]),[])),(3,([0,1,2,5,6,7,3,4,8,9,10,11],[]))],[],[]⟩ [2,3] [] hvc
def C2h(P:aD)(f:Bool)(g:OA)(i j:Nat)(k:Bool)(l:OA)(m n:Nat)(h:aF)(K:VP):Prop:=
 aC P Ht #[Zv f g i j] h (fun o a=>∃ b c d e,o=Zv b c d e/\h.le a/\K (Qv b c d e k l m n) a)
def B6c a b c d e f g i(hvc:C2h prog a b c d e f g i h K):aC prog A86 #[Qv a b c d e f g i] h K:=
 fnk func247 { orders:=[(1,([0,1,3,4,2,5,6],[]))] } [1,2] [] hvc
def C2l(P:aD)(r:Bool)(s:OA)(t u:Nat)(e:Bool)(f:OA)(g i:Nat)(v:Bool)(w:OA)(x y:Nat)(a:Bool)(b:OA)(c d:Nat)(h:aF)(K:VP):Prop:=
 ∃ (A:LP),(aC P E4 #[Zv e f g i] h (fun i3 a8=>∃ (a1:Bool),i3= .bool a1/\Br a1 (aC P E4 #[Zv a b c d] a8 (fun i4 i5=>∃ (a2:Bool),i4= .bool a2/\A [.bool a2] i5))
 (A [.bool false] a8)))/\
 ∀ b7 Q,A [.bool b7] Q->Br b7 (aC P Qs #[Zv r s t u,Zv v w x y] Q (fun i6 i7=>∃ b8 b9 c0 c1,i6=Zv b8 b9 c0 c1/\K (Qv b8 b9 c0 c1 false none 0 0) i7))
 (∃ (a3:LP),(aC P E4 #[Zv e f g i] Q (fun i8 i9=>∃ (a4:Bool),i8= .bool a4/\a3 [.bool a4] i9))/\
 ∀ c2 z,a3 [.bool c2] z->Br c2 (aC P T7 #[Zv r s t u,Zv a b c d] z (fun j0 B=>∃ c3 c4 c5 c6,j0=Zv c3 c4 c5 c6/\z.le B/\aC P Qs #[Zv c3 c4 c5 c6,Zv v w x y] B (fun j1 a9=>∃ c7 c8 c9 d0,j1=Zv c7 c8 c9 d0/\B.le a9/\K (Qv c7 c8 c9 d0 a b c d) a9)))
 (aC P E4 #[Zv a b c d] z (fun j2 C=>∃ (a5:Bool),j2= .bool a5/\Br a5 (aC P T7 #[Zv v w x y,Zv e f g i] C (fun j3 D=>∃ d1 d2 d3 d4,j3=Zv d1 d2 d3 d4/\C.le D/\aC P Qs #[Zv d1 d2 d3 d4,Zv r s t u] D (fun j4 b0=>∃ d5 d6 d7 d8,j4=Zv d5 d6 d7 d8/\D.le b0/\K (Qv d5 d6 d7 d8 e f g i) b0)))
 (aC P Ns #[Zv e f g i,Zv a b c d] C (fun j5 b1=>∃ j k l m,j5=Zv j k l m/\aC P Fp #[Zv a b c d,Zv j k l m] b1 (fun j6 E=>∃ d9 e0 e1 e2,j6=Zv d9 e0 e1 e2/\b1.le E/\aC P Fp #[Zv e f g i,Zv j k l m] E (fun j7 F=>∃ R S T V,j7=Zv R S T V/\E.le F/\aC P T7 #[Zv r s t u,Zv d9 e0 e1 e2] F (fun j8 G=>∃ e3 e4 e5 e6,j8=Zv e3 e4 e5 e6/\F.le G/\aC P T7 #[Zv v w x y,Zv R S T V] G (fun j9 H=>∃ e7 e8 e9 f0,j9=Zv e7 e8 e9 f0/\G.le H/\aC P Qs #[Zv e3 e4 e5 e6,Zv e7 e8 e9 f0] H (fun k0 b2=>∃ n o p q,k0=Zv n o p q/\H.le b2/\aC P E4 #[Zv n o p q] b2 (fun k1 b3=>∃ (a6:Bool),k1= .bool a6/\Br a6 (K (Qv false none 0 0 false none 0 0) b3)
 (aC P V6 #[Zv j k l m] b3 (fun k2 J=>∃ (a7:Bool),k2= .bool a7/\Br a7 (aC P T7 #[Zv e f g i,Zv a b c d] J (fun k3 L=>∃ f1 f2 f3 f4,k3=Zv f1 f2 f3 f4/\J.le L/\aC P Q1 #[Zv n o p q,Zv f1 f2 f3 f4] L (fun k4 b4=>∃ f5 f6 f7 f8 f9 g0 g1 g2,k4=Qv f5 f6 f7 f8 f9 g0 g1 g2/\L.le b4/\K (Qv f5 f6 f7 f8 f9 g0 g1 g2) b4)))
 (aC P Ns #[Zv n o p q,Zv j k l m] J (fun k5 b5=>∃ W X Z a0,k5=Zv W X Z a0/\aC P Fp #[Zv n o p q,Zv W X Z a0] b5 (fun k6 M=>∃ g3 g4 g5 g6,k6=Zv g3 g4 g5 g6/\b5.le M/\aC P Fp #[Zv a b c d,Zv W X Z a0] M (fun k7 N=>∃ g7 g8 g9 h0,k7=Zv g7 g8 g9 h0/\M.le N/\aC P T7 #[Zv R S T V,Zv g7 g8 g9 h0] N (fun k8 O=>∃ h1 h2 h3 h4,k8=Zv h1 h2 h3 h4/\N.le O/\aC P Q1 #[Zv g3 g4 g5 g6,Zv h1 h2 h3 h4] O (fun k9 b6=>∃ h5 h6 h7 h8 h9 i0 i1 i2,k9=Qv h5 h6 h7 h8 h9 i0 i1 i2/\O.le b6/\K (Qv h5 h6 h7 h8 h9 i0 i1 i2) b6)))))))))))))))))))
def B6g a b c d e f g i j k l m n o p q(hvc:C2l prog a b c d e f g i j k l m n o p q h K):aC prog A87 #[Qv a b c d e f g i,Qv j k l m n o p q] h K:=
 fnk func102 ⟨[],[(2,⟨[10],[],[.bool false],⟨(Lrg 10 9),[]⟩⟩),(4,⟨[25],[],[.bool false],⟨[25,26,27,28],[]⟩⟩)],[(4,([0,1,2,3,5,6,8,9,4,7,10,11],[])),(6,([0,1,2,3,5,6,8,9,4,7,10,11],[])),(8,([0,1,2,4,5,6,8,9,3,7,10,11],[])),(9,([0,1,2,4,5,6,9,3,7,8,10],[])),(15,([0,1,3,4,5,6,2,7,8,9,10],[]))],[],[]⟩ (Lrg 2 8) [] hvc
def C2i(P:aD)(a:Bool)(b:OA)(c d:Nat)(t:Bool)(u:OA)(v w:Nat)(e:Bool)(f:OA)(g i:Nat)(x:Bool)(y:OA)(z A:Nat)(h:aF)(K:VP):Prop:=
 ∃ (k:LP),(aC P E4 #[Zv a b c d] h (fun d3 a0=>∃ (B:Bool),d3= .bool B/\Br B (k [.bool true] a0)
 (aC P E4 #[Zv e f g i] a0 (fun d4 d5=>∃ (C:Bool),d4= .bool C/\k [.bool C] d5))))/\
 ∀ a3 s,k [.bool a3] s->Br a3 (K (Qv false none 0 0 false none 0 0) s)
 (∃ (l:LP),(aC P E4 #[Zv t u v w] s (fun d6 a1=>∃ (D:Bool),d6= .bool D/\Br D (aC P E4 #[Zv x y z A] a1 (fun d7 d8=>∃ (E:Bool),d7= .bool E/\l [.bool E] d8))
 (l [.bool false] a1)))/\
 ∀ a4 j,l [.bool a4] j->Br a4 (aC P T7 #[Zv a b c d,Zv e f g i] j (fun d9 e0=>∃ a5 a6 a7 a8,d9=Zv a5 a6 a7 a8/\K (Qv a5 a6 a7 a8 false none 0 0) e0))
 (aC P Hv #[Qv e f g i x y z A] j (fun e1 m=>∃ a9 b0 b1 b2,e1=Zv a9 b0 b1 b2/\j.le m/\aC P Kg #[Zv a b c d,Zv a9 b0 b1 b2] m (fun e2 n=>∃ (F:Bool) (G:OA) (H J:Nat) (L:Bool) (M:OA) (N O:Nat),e2= .tuple #[Zv F G H J,Zv L M N O]/\m.le n/\aC P Hv #[Qv a b c d t u v w] n (fun e3 o=>∃ b3 b4 b5 b6,e3=Zv b3 b4 b5 b6/\n.le o/\aC P Kg #[Zv e f g i,Zv b3 b4 b5 b6] o (fun e4 p=>∃ (Q:Bool) (R:OA) (S T:Nat) (V:Bool) (W:OA) (X Z:Nat),e4= .tuple #[Zv Q R S T,Zv V W X Z]/\o.le p/\aC P T7 #[Zv F G H J,Zv Q R S T] p (fun e5 q=>∃ b7 b8 b9 c0,e5=Zv b7 b8 b9 c0/\p.le q/\aC P T7 #[Zv V W X Z,Zv L M N O] q (fun e6 r=>∃ c1 c2 c3 c4,e6=Zv c1 c2 c3 c4/\q.le r/\aC P Q1 #[Zv b7 b8 b9 c0,Zv c1 c2 c3 c4] r (fun e7 a2=>∃ c5 c6 c7 c8 c9 d0 d1 d2,e7=Qv c5 c6 c7 c8 c9 d0 d1 d2/\r.le a2/\K (Qv c5 c6 c7 c8 c9 d0 d1 d2) a2)))))))))
def B6d a b c d e f g i j k l m n o p q(hvc:C2i prog a b c d e f g i j k l m n o p q h K):aC prog A3t #[Qv a b c d e f g i,Qv j k l m n o p q] h K:=
 fnk func103 ⟨[],[(2,⟨[16],[],[.bool false],⟨(Lrg 9 8),[]⟩⟩),(4,⟨[25],[],[.bool false],⟨(Lrg 18 8),[]⟩⟩)],[(5,([0,1,2,8,9,3,4,5,6,7,10,11],[])),(6,([0,1,2,8,9,3,4,5,6,7,10,11],[])),(7,([0,1,3,4,2,5,6,7],[]))],[],[]⟩ [2,3,4,5,6,7,8] [] hvc
def A4b(P:aD)(a:Bool)(b:OA)(c d:Nat)(l:Bool)(m:OA)(n o:Nat)(h:aF)(K:VP):Prop:=
 aC P Im #[Zv a b c d] h (fun a2 e=>∃ k,a2=I k/\Br (k==0) (K (Qv false none 0 0 false none 0 0) e)
 (Br (k==(-1:Int)) (aC P Hv #[Qv a b c d l m n o] e (fun a3 f=>∃ r s t u,a3=Zv r s t u/\e.le f/\aC P Ht #[Zv r s t u] f (fun a4 g=>∃ v w x y,a4=Zv v w x y/\f.le g/\aC P Ht #[Zv a b c d] g (fun a5 i=>∃ z A B C,a5=Zv z A B C/\g.le i/\aC P Q1 #[Zv v w x y,Zv z A B C] i (fun a6 p=>∃ D E F G H J L M,a6=Qv D E F G H J L M/\i.le p/\K (Qv D E F G H J L M) p)))))
 (aC P Hv #[Qv a b c d l m n o] e (fun a7 j=>∃ N O Q R,a7=Zv N O Q R/\e.le j/\aC P Q1 #[Zv N O Q R,Zv a b c d] j (fun a8 q=>∃ S T V W X Z a0 a1,a8=Qv S T V W X Z a0 a1/\j.le q/\K (Qv S T V W X Z a0 a1) q)))))
def A2x a b c d e f g i(hvc:A4b prog a b c d e f g i h K):aC prog Hf #[Qv a b c d e f g i] h K:=
 fnk func220 { orders:=[(5,([0,3,4,1,2,5,6,7],[])),(6,([0,2,3,1,4,5],[]))] } [1,2] [] hvc
def C2j(P:aD)(t:Bool)(u:OA)(v w:Nat)(x:Bool)(y:OA)(z A:Nat)(B:Bool)(C:OA)(D E:Nat)(F:Bool)(G:OA)(H J:Nat)(h:aF)(K:VP):Prop:=
 aC P Hf #[Qv B C D E F G H J] h (fun L a=>∃ c d e f g i j k,L=Qv c d e f g i j k/\h.le a/\aC P A3t #[Qv t u v w x y z A,Qv c d e f g i j k] a (fun M b=>∃ l m n o p q r s,M=Qv l m n o p q r s/\a.le b/\K (Qv l m n o p q r s) b))
def B6e a b c d e f g i j k l m n o p q(hvc:C2j prog a b c d e f g i j k l m n o p q h K):aC prog A3u #[Qv a b c d e f g i,Qv j k l m n o p q] h K:=
 fnk func160 an0 [2,3,4] [] hvc
def C2f(P:aD)(e:Bool)(f:OA)(g i:Nat)(j:Bool)(k:OA)(l m:Nat)(a:Int)(h:aF)(K:VP):Prop:=
 aC P E4 #[Zv j k l m] h (fun L b=>∃ (n:Bool),L= .bool n/\Br n (aC P Nr #[Zv e f g i,U a] b (fun M N=>∃ p q r s,M=Zv p q r s/\K (Qv p q r s false none 0 0) N))
 (aC P Nr #[Zv e f g i,U a] b (fun O c=>∃ t u v w,O=Zv t u v w/\b.le c/\aC P Nr #[Zv j k l m,U a] c (fun Q d=>∃ x y z A,Q=Zv x y z A/\c.le d/\aC P Q1 #[Zv t u v w,Zv x y z A] d (fun R o=>∃ B C D E F G H J,R=Qv B C D E F G H J/\d.le o/\K (Qv B C D E F G H J) o)))))
def B6a a b c d e f g i j(hvc:C2f prog a b c d e f g i j h K):aC prog A3s #[Qv a b c d e f g i,U j] h K:=
 fnk func221 { orders:=[(3,([0,1,2,4,5,6,3,7,8,9],[]))] } [2,4] [] hvc
def B40(P:aD)(a:Bool)(b:OA)(c d:Nat)(e:Bool)(f:OA)(g i:Nat)(h:aF)(K:VP):Prop:=
 aC P E4 #[Zv e f g i] h (fun p k=>∃ (j:Bool),p= .bool j/\Br j (K (Zv a b c d) k)
 (aC P In #[Zv a b c d,Zv e f g i] k (fun q r=>∃ l m n o,q=Zv l m n o/\K (Zv l m n o) r)))
def A9r a b c d e f g i(hvc:B40 prog a b c d e f g i h K):aC prog Pd #[Qv a b c d e f g i] h K:=
 fnk func218 an0 [1,2] [] hvc
def B90(P:aD)(r:Bool)(s:OA)(t u:Nat)(v:Bool)(w:OA)(x y:Nat)(h:aF)(K:VP):Prop:=
 aC P A86 #[Qv r s t u v w x y] h (fun z A=>∃ a b c d e f g i,z=Qv a b c d e f g i/\aC P Pd #[Qv a b c d e f g i] A (fun B C=>∃ j k l m,B=Zv j k l m/\aC P Ht #[Zv j k l m] C (fun D E=>∃ n o p q,D=Zv n o p q/\K (Zv n o p q) E)))
def B2q a b c d e f g i(hvc:B90 prog a b c d e f g i h K):aC prog A2e #[Qv a b c d e f g i] h K:=
 fnk func219 an0 [1,2] [] hvc
