/- A part. -/
import Derived.Test.YtmbfcbbkbefgfaaGreatDoorG08
open Go.Proofs.Tryz
set_option linter.all false
open _root_.ByteArray renaming toList->aD
open _root_.Go renaming Program->aE
open _root_.Go.Proofs.YtmbfcbbkbefgfaaGreatDoor renaming FCall->aC,Heap->aF
namespace Go.Proofs.YtmbfcbbkbefgfaaGreatDoor
open Go
set_option maxRecDepth 100000
variable {h:aF} {K:VP}
abbrev A16:Nat:=149
abbrev Az:Nat:=229
abbrev B9f:Nat:=148
abbrev C2v:Nat:=193
abbrev B6e:Nat:=226
abbrev C6r:Nat:=227
abbrev B6f:Nat:=196
abbrev B6d:Nat:=194
abbrev Tf:Nat:=159
abbrev S0:Nat:=170
abbrev Y4:Nat:=185
abbrev Oc:Nat:=186
abbrev A6j:Nat:=181
abbrev C53:Nat:=195
abbrev C54:Nat:=76
abbrev Yr:Nat:=189
abbrev C2w:Nat:=109
abbrev C6p:Nat:=266
abbrev C6t:Nat:=108
abbrev C6n:Nat:=123
abbrev C6q:Nat:=122
abbrev C6s:Nat:=136
abbrev C6o:Nat:=139
abbrev C55:Nat:=137
abbrev C60:Nat:=138
abbrev C5z:Nat:=140
abbrev Ys:Nat:=202
abbrev Rt:Nat:=187
abbrev Vf:Nat:=104
abbrev A17:Nat:=92
abbrev Od:Nat:=158
abbrev C56:Nat:=349
abbrev C2x:Nat:=197
abbrev B3l:Nat:=247
abbrev B3n:Nat:=102
abbrev A89:Nat:=180
abbrev B3m:Nat:=103
abbrev Qi:Nat:=220
abbrev Yt:Nat:=160
abbrev C6v:Nat:=221
abbrev C57:Nat:=218
abbrev C61:Nat:=219
abbrev C6h:Nat:=303
def C01(P:aE)(p:ByteArray)(h:aF)(K:VP):Prop:=
 aC P Ir #[.string p,.string ({ data:=#[45] }:ByteArray)] h (fun q r=>∃ (j:ByteArray) (b:Bool),q= .tuple #[.string j,.bool b]/\aC P Az #[.string j] r (fun s f=>∃ (a d:ByteArray),s= .tuple #[.string a,.string d]/\Br (a.toList==aD ({ data:=#[48] }:ByteArray)) (Br (!b) (K (.tuple #[.agg #[.bool b,.string a,.string ({ data:=#[] }:ByteArray)],.bool (d.toList==aD ({ data:=#[] }:ByteArray))]) f)
 (K (.tuple #[.agg #[.bool b,.string a,.string ({ data:=#[] }:ByteArray)],.bool false]) f))
 (∃ (i:LP),(Br (a.toList==aD ({ data:=#[] }:ByteArray)) (i [.bool true] f)
 (∃ (k:UInt8),(0<=(0:Int)/\(a)[((0:Int)).toNat]? = some k)/\i [.bool (((k.toNat:Nat):Int)==(48:Int))] f))/\
 ∀ o e,i [.bool o] e->Br o (K (.tuple #[.agg #[.bool b,.string a,.string ({ data:=#[] }:ByteArray)],.bool false]) e)
 (Br (d.toList==aD ({ data:=#[] }:ByteArray)) (K (.tuple #[.agg #[.bool b,.string a,.string ({ data:=#[] }:ByteArray)],.bool true]) e)
 (∃ (l:UInt8),(0<=(0:Int)/\(d)[((0:Int)).toNat]? = some l)/\Br (((l.toNat:Nat):Int) != (47:Int)) (K (.tuple #[.agg #[.bool b,.string a,.string ({ data:=#[] }:ByteArray)],.bool false]) e)
 ((0<=(1:Int)/\(1:Int)<=(((d).size:Nat):Int))/\aC P Az #[.string ((d).extract (((1:Int)).toNat) ((d).size))] e (fun t g=>∃ (c m:ByteArray),t= .tuple #[.string c,.string m]/\Br (m.toList==aD ({ data:=#[] }:ByteArray)) (Br (!(c.toList==aD ({ data:=#[] }:ByteArray))) (∃ (n:UInt8),(0<=(0:Int)/\(c)[((0:Int)).toNat]? = some n)/\Br (((n.toNat:Nat):Int) != (48:Int)) (K (.tuple #[.agg #[.bool b,.string a,.string c],.bool (!(c.toList==aD ({ data:=#[49] }:ByteArray)))]) g)
 (K (.tuple #[.agg #[.bool b,.string a,.string c],.bool false]) g))
 (K (.tuple #[.agg #[.bool b,.string a,.string c],.bool false]) g))
 (K (.tuple #[.agg #[.bool b,.string a,.string c],.bool false]) g))))))))
def B50 a(hvc:C01 prog a h K):aC prog A16 #[.string a] h K:=
 fnk func149 { cuts:=[(8,⟨[31],[],[.bool false],⟨(Lrg 31 10),[]⟩⟩)] } [2,4] [] hvc
def Zh(P:aE)(b:ByteArray)(h:aF)(K:VP):Prop:=
 ∃ (e:LP),(∃ (f:LP) (g:LN),f [I 0] h/\
 ∀ a c,f [I a] c->Bd (a<((ByteArray.size b:Nat):Int)) (∃ (i:UInt8),(0<=a/\(b)[a.toNat]? = some i)/\Bd ((48:Int)<=((i.toNat:Nat):Int)) (∃ (j:UInt8),(0<=a/\(b)[a.toNat]? = some j)/\Bd (((j.toNat:Nat):Int)<=(57:Int)) (f [I (B7 (a+1))] c/\g [I (B7 (a+1))] c<g [I a] c)
 (e [I a] c))
 (e [I a] c))
 (e [I a] c))/\
 ∀ d k,e [I d] k->(0<=d/\d<=(((b).size:Nat):Int))/\(0<=d/\d<=(((b).size:Nat):Int))/\K (.tuple #[.string ((b).extract 0 (d.toNat)),.string ((b).extract (d.toNat) ((b).size))]) k
def A1z a(hvc:Zh prog a h K):aC prog Az #[.string a] h K:=
 fnk func229 ⟨[(2,⟨[4],[],[I 0],⟨(Lrg 4 19),[]⟩⟩)],[(4,⟨[4],[],[I 0],⟨(Lrg 4 19),[]⟩⟩)],[],[],[]⟩ [] [] hvc
def C02(P:aE)(e:Int)(h:aF)(K:VP):Prop:=
 aC P Rs #[I e] h (fun f g=>∃ a b c d,f=Zv a b c d/\K (Qv a b c d false none 0 0) g)
def B51 a(hvc:C02 prog a h K):aC prog Tf #[I a] h K:=
 fnk func159 an0 [2] [] hvc
def A4r(P:aE)(r:Bool)(s:OA)(t u:Nat)(j:Bool)(k:OA)(l m:Nat)(h:aF)(K:VP):Prop:=
 ∃ (v:LP),(aC P F0 #[Zv j k l m] h (fun c4 G=>∃ (C:Bool),c4= .bool C/\Br C (v [.bool true] G)
 (aC P F0 #[Zv r s t u] G (fun c5 c6=>∃ (D:Bool),c5= .bool D/\v [.bool D] c6))))/\
 ∀ M B,v [.bool M] B->Br M (K (Qv false none 0 0 false none 0 0) B)
 (∃ (w:LP),(aC P Vc #[Zv j k l m] B (fun c7 x=>∃ N,c7=I N/\Bd (N<(0:Int)) (aC P Oa #[Zv r s t u] x (fun c8 y=>∃ O Q R S,c8=Zv O Q R S/\x.le y/\aC P Oa #[Zv j k l m] y (fun c9 H=>∃ T V W X,c9=Zv T V W X/\y.le H/\w [.bool O,.slice Q R S,.bool T,.slice V W X] H)))
 (w [.bool r,.slice s t u,.bool j,.slice k l m] x)))/\
 ∀ a b c d e f g i Z,w [.bool a,.slice b c d,.bool e,.slice f g i] Z->aC P Cd #[Zv e f g i] Z (fun d0 J=>∃ (E:Bool),d0= .bool E/\Br E (K (Qv a b c d false none 0 0) J)
 (aC P Ob #[Zv a b c d,Zv e f g i] J (fun d1 d2=>∃ n o p q,d1=Zv n o p q/\aC P Cd #[Zv n o p q] d2 (fun d3 z=>∃ (F:Bool),d3= .bool F/\Br (!F) (aC P Ew #[Zv a b c d,Zv n o p q] z (fun d4 A=>∃ a0 a1 a2 a3,d4=Zv a0 a1 a2 a3/\z.le A/\aC P Ew #[Zv e f g i,Zv n o p q] A (fun d5 L=>∃ a4 a5 a6 a7,d5=Zv a4 a5 a6 a7/\A.le L/\aC P Y4 #[Zv a0 a1 a2 a3,Zv a4 a5 a6 a7] L (fun d6 d7=>∃ a8 a9 b0 b1 b2 b3 b4 b5,d6=Qv a8 a9 b0 b1 b2 b3 b4 b5/\K (Qv a8 a9 b0 b1 b2 b3 b4 b5) d7))))
 (aC P Y4 #[Zv a b c d,Zv e f g i] z (fun d8 d9=>∃ b6 b7 b8 b9 c0 c1 c2 c3,d8=Qv b6 b7 b8 b9 c0 c1 c2 c3/\K (Qv b6 b7 b8 b9 c0 c1 c2 c3) d9)))))))
def A4q a b c d e f g i(hvc:A4r prog a b c d e f g i h K):aC prog S0 #[Zv a b c d,Zv e f g i] h K:=
 fnk func170 ⟨[],[(2,⟨[11],[],[.bool false],⟨[6,7,8,9,10,11],[]⟩⟩),(5,⟨[],[(2,2),(3,2)],[.bool false,N0,.bool false,N0],⟨[13,14,15,16,17,18,19],[2,3]⟩⟩)],[(4,([0,2,1,3,4,5],[])),(9,([0,1,3,4,2,5,6,7],[]))],[],[]⟩ [2,3,4,5] [] hvc
def B52(P:aE)(a:Bool)(b:OA)(c d:Nat)(e:Bool)(f:OA)(g i:Nat)(h:aF)(K:VP):Prop:=
 aC P Cd #[Zv e f g i] h (fun l k=>∃ (j:Bool),l= .bool j/\Br j (K (Qv a b c d false none 0 0) k)
 (K (Qv a b c d e f g i) k))
def B0q a b c d e f g i(hvc:B52 prog a b c d e f g i h K):aC prog Y4 #[Zv a b c d,Zv e f g i] h K:=
 fnk func185 an0 [2,3,4] [] hvc
def B53(P:aE)(e:Bool)(f:OA)(g i:Nat)(a:Bool)(b:OA)(c d:Nat)(h:aF)(K:VP):Prop:=
 aC P Cd #[Zv a b c d] h (fun A p=>∃ (o:Bool),A= .bool o/\Br o (K (.tuple #[Zv e f g i,Zv a b c d]) p)
 (aC P Ob #[Zv e f g i,Zv a b c d] p (fun B q=>∃ k l m n,B=Zv k l m n/\aC P Ew #[Zv e f g i,Zv k l m n] q (fun C j=>∃ s t u v,C=Zv s t u v/\q.le j/\aC P Ew #[Zv a b c d,Zv k l m n] j (fun D r=>∃ w x y z,D=Zv w x y z/\j.le r/\K (.tuple #[Zv s t u v,Zv w x y z]) r)))))
def B0r a b c d e f g i(hvc:B53 prog a b c d e f g i h K):aC prog Oc #[Zv a b c d,Zv e f g i] h K:=
 fnk func186 { orders:=[(4,([0,1,3,4,2,5,6,7],[]))] } [2,3,4,5,6] [] hvc
def C49(P:aE)(L:ByteArray)(h:aF)(K:VP):Prop:=
 aC P A16 #[.string L] h (fun M u=>∃ (q:Bool) (r e:ByteArray) (s:Bool),M= .tuple #[.agg #[.bool q,.string r,.string e],.bool s]/\Br (!s) (K (.tuple #[Qv false none 0 0 false none 0 0,.bool false]) u)
 (aC P Te #[.string r] u (fun N v=>∃ g i j k,N=Zv g i j k/\∃ (f:LP),(Br q (aC P Oa #[Zv g i j k] v (fun O Q=>∃ x y z A,O=Zv x y z A/\f [.bool x,.slice y z A,.bool false,N0] Q))
 (f [.bool g,.slice i j k,.bool false,N0] v))/\
 ∀ a b c d B C D E l,f [.bool a,.slice b c d,.bool B,.slice C D E] l->Br (e.toList==aD ({ data:=#[] }:ByteArray)) (K (.tuple #[Qv a b c d B C D E,.bool true]) l)
 (aC P Te #[.string e] l (fun R S=>∃ m n o p,R=Zv m n o p/\aC P Ob #[Zv a b c d,Zv m n o p] S (fun T V=>∃ F G H J,T=Zv F G H J/\aC P Cd #[Zv F G H J] V (fun W w=>∃ (t:Bool),W= .bool t/\Br (!t) (K (.tuple #[Qv false none 0 0 false none 0 0,.bool false]) w)
 (K (.tuple #[Qv a b c d m n o p,.bool true]) w))))))))
def B8a a(hvc:C49 prog a h K):aC prog A6j #[.string a] h K:=
 fnk func181 { cuts:=[(7,⟨[],[(6,4)],[.bool false,N0,.bool false,N0],⟨[19,20,21,22,23,24],[6]⟩⟩)] } [2,4,6] [] hvc
def A8w(P:aE)(b:Int)(h:aF)(K:VP):Prop:=
 aC P Iq #[I b,I 10] h (fun c d=>∃ (a:ByteArray),c= .string a/\K (.string a) d)
def A73 a(hvc:A8w prog a h K):aC prog Yr #[I a] h K:=
 fnk func189 an0 [] [] hvc
def C77(P:aE)(a:Bool)(b:OA)(c d:Nat)(e:Bool)(f:OA)(g i:Nat)(h:aF)(K:VP):Prop:=
 K (Zv a b c d) h
def C2c a b c d e f g i(hvc:C77 prog a b c d e f g i h K):aC prog Ys #[Qv a b c d e f g i] h K:=
 fnk func202 an0 [1,2] [] hvc
def C7b(P:aE)(o:Bool)(p:OA)(q r:Nat)(a:Bool)(b:OA)(c d:Nat)(h:aF)(K:VP):Prop:=
 aC P F0 #[Zv a b c d] h (fun l f=>∃ (e:Bool),l= .bool e/\Br e (aC P Rs #[I 1] f (fun m n=>∃ g i j k,m=Zv g i j k/\K (Zv g i j k) n))
 (K (Zv a b c d) f))
def C2g a b c d e f g i(hvc:C7b prog a b c d e f g i h K):aC prog Rt #[Qv a b c d e f g i] h K:=
 fnk func187 an0 [1,2] [] hvc
def B56(P:aE)(a:Bool)(b:OA)(c d:Nat)(e:Bool)(f:OA)(g i:Nat)(h:aF)(K:VP):Prop:=
 aC P F0 #[Zv e f g i] h (fun D p=>∃ (j:Bool),D= .bool j/\Br j (aC P A13 #[Zv a b c d] p (fun E q=>∃ (k:Int) (l:Bool),E= .tuple #[I k,.bool l]/\Br l (aC P Yr #[I k] q (fun F G=>∃ (m:ByteArray),F= .string m/\K (.string m) G))
 (aC P Vb #[Zv a b c d] q (fun H J=>∃ (n:ByteArray),H= .string n/\K (.string n) J))))
 (aC P Ig #[Zv a b c d,Sl none 0 0] p (fun L M=>∃ r s t,L=Sl r s t/\wpH P (Instr.buildSlice 248 1 #[(0,Y (47:Int))]) (fun N O=>∃ u v w,N=Sl u v w/\wpH P (Builtin.append_ #[248,248] 248 #[Sl r s t,Sl u v w]) (fun Q R=>∃ x y z,Q=Sl x y z/\aC P Ig #[Zv e f g i,Sl x y z] R (fun S T=>∃ A B C,S=Sl A B C/\wpH P (convert 248 9 (.slice A B C)) (fun V W=>∃ (o:ByteArray),V= .string o/\K (.string o) W) T)) O) M)))
def B0s a b c d e f g i(hvc:B56 prog a b c d e f g i h K):aC prog Vf #[Qv a b c d e f g i] h K:=
 fnk func104 an0 [1] [] hvc
def C4a(P:aE)(b:Bool)(c:OA)(d e:Nat)(i:Bool)(j:OA)(k l:Nat)(h:aF)(K:VP):Prop:=
 aC P Vc #[Zv b c d e] h (fun f g=>∃ a,f=I a/\K (I a) g)
def B8b a b c d e f g i(hvc:C4a prog a b c d e f g i h K):aC prog A17 #[Qv a b c d e f g i] h K:=
 fnk func92 an0 [1] [] hvc
def B58(P:aE)(b:Bool)(c:OA)(d e:Nat)(i:Bool)(j:OA)(k l:Nat)(h:aF)(K:VP):Prop:=
 aC P F0 #[Zv b c d e] h (fun f g=>∃ (a:Bool),f= .bool a/\K (.bool a) g)
def B0u a b c d e f g i(hvc:B58 prog a b c d e f g i h K):aC prog Od #[Qv a b c d e f g i] h K:=
 fnk func158 an0 [1] [] hvc
def C78(P:aE)(f:Bool)(g:OA)(i j:Nat)(k:Bool)(l:OA)(m n:Nat)(h:aF)(K:VP):Prop:=
 aC P Oa #[Zv f g i j] h (fun o a=>∃ b c d e,o=Zv b c d e/\h.le a/\K (Qv b c d e k l m n) a)
def C2d a b c d e f g i(hvc:C78 prog a b c d e f g i h K):aC prog B3l #[Qv a b c d e f g i] h K:=
 fnk func247 { orders:=[(1,([0,1,3,4,2,5,6],[]))] } [1,2] [] hvc
def C7c(P:aE)(r:Bool)(s:OA)(t u:Nat)(e:Bool)(f:OA)(g i:Nat)(v:Bool)(w:OA)(x y:Nat)(a:Bool)(b:OA)(c d:Nat)(h:aF)(K:VP):Prop:=
 ∃ (A:LP),(aC P F0 #[Zv e f g i] h (fun i3 a8=>∃ (a1:Bool),i3= .bool a1/\Br a1 (aC P F0 #[Zv a b c d] a8 (fun i4 i5=>∃ (a2:Bool),i4= .bool a2/\A [.bool a2] i5))
 (A [.bool false] a8)))/\
 ∀ b7 Q,A [.bool b7] Q->Br b7 (aC P Rr #[Zv r s t u,Zv v w x y] Q (fun i6 i7=>∃ b8 b9 c0 c1,i6=Zv b8 b9 c0 c1/\K (Qv b8 b9 c0 c1 false none 0 0) i7))
 (∃ (a3:LP),(aC P F0 #[Zv e f g i] Q (fun i8 i9=>∃ (a4:Bool),i8= .bool a4/\a3 [.bool a4] i9))/\
 ∀ c2 z,a3 [.bool c2] z->Br c2 (aC P Bw #[Zv r s t u,Zv a b c d] z (fun j0 B=>∃ c3 c4 c5 c6,j0=Zv c3 c4 c5 c6/\z.le B/\aC P Rr #[Zv c3 c4 c5 c6,Zv v w x y] B (fun j1 a9=>∃ c7 c8 c9 d0,j1=Zv c7 c8 c9 d0/\B.le a9/\K (Qv c7 c8 c9 d0 a b c d) a9)))
 (aC P F0 #[Zv a b c d] z (fun j2 C=>∃ (a5:Bool),j2= .bool a5/\Br a5 (aC P Bw #[Zv v w x y,Zv e f g i] C (fun j3 D=>∃ d1 d2 d3 d4,j3=Zv d1 d2 d3 d4/\C.le D/\aC P Rr #[Zv d1 d2 d3 d4,Zv r s t u] D (fun j4 b0=>∃ d5 d6 d7 d8,j4=Zv d5 d6 d7 d8/\D.le b0/\K (Qv d5 d6 d7 d8 e f g i) b0)))
 (aC P Ob #[Zv e f g i,Zv a b c d] C (fun j5 b1=>∃ j k l m,j5=Zv j k l m/\aC P Ew #[Zv a b c d,Zv j k l m] b1 (fun j6 E=>∃ d9 e0 e1 e2,j6=Zv d9 e0 e1 e2/\b1.le E/\aC P Ew #[Zv e f g i,Zv j k l m] E (fun j7 F=>∃ R S T V,j7=Zv R S T V/\E.le F/\aC P Bw #[Zv r s t u,Zv d9 e0 e1 e2] F (fun j8 G=>∃ e3 e4 e5 e6,j8=Zv e3 e4 e5 e6/\F.le G/\aC P Bw #[Zv v w x y,Zv R S T V] G (fun j9 H=>∃ e7 e8 e9 f0,j9=Zv e7 e8 e9 f0/\G.le H/\aC P Rr #[Zv e3 e4 e5 e6,Zv e7 e8 e9 f0] H (fun k0 b2=>∃ n o p q,k0=Zv n o p q/\H.le b2/\aC P F0 #[Zv n o p q] b2 (fun k1 b3=>∃ (a6:Bool),k1= .bool a6/\Br a6 (K (Qv false none 0 0 false none 0 0) b3)
 (aC P Cd #[Zv j k l m] b3 (fun k2 J=>∃ (a7:Bool),k2= .bool a7/\Br a7 (aC P Bw #[Zv e f g i,Zv a b c d] J (fun k3 L=>∃ f1 f2 f3 f4,k3=Zv f1 f2 f3 f4/\J.le L/\aC P Y4 #[Zv n o p q,Zv f1 f2 f3 f4] L (fun k4 b4=>∃ f5 f6 f7 f8 f9 g0 g1 g2,k4=Qv f5 f6 f7 f8 f9 g0 g1 g2/\L.le b4/\K (Qv f5 f6 f7 f8 f9 g0 g1 g2) b4)))
 (aC P Ob #[Zv n o p q,Zv j k l m] J (fun k5 b5=>∃ W X Z a0,k5=Zv W X Z a0/\aC P Ew #[Zv n o p q,Zv W X Z a0] b5 (fun k6 M=>∃ g3 g4 g5 g6,k6=Zv g3 g4 g5 g6/\b5.le M/\aC P Ew #[Zv a b c d,Zv W X Z a0] M (fun k7 N=>∃ g7 g8 g9 h0,k7=Zv g7 g8 g9 h0/\M.le N/\aC P Bw #[Zv R S T V,Zv g7 g8 g9 h0] N (fun k8 O=>∃ h1 h2 h3 h4,k8=Zv h1 h2 h3 h4/\N.le O/\aC P Y4 #[Zv g3 g4 g5 g6,Zv h1 h2 h3 h4] O (fun k9 b6=>∃ h5 h6 h7 h8 h9 i0 i1 i2,k9=Qv h5 h6 h7 h8 h9 i0 i1 i2/\O.le b6/\K (Qv h5 h6 h7 h8 h9 i0 i1 i2) b6)))))))))))))))))))
def C2h a b c d e f g i j k l m n o p q(hvc:C7c prog a b c d e f g i j k l m n o p q h K):aC prog B3n #[Qv a b c d e f g i,Qv j k l m n o p q] h K:=
 fnk func102 ⟨[],[(2,⟨[10],[],[.bool false],⟨(Lrg 10 9),[]⟩⟩),(4,⟨[25],[],[.bool false],⟨[25,26,27,28],[]⟩⟩)],[(4,([0,1,2,3,5,6,8,9,4,7,10,11],[])),(6,([0,1,2,3,5,6,8,9,4,7,10,11],[])),(8,([0,1,2,4,5,6,8,9,3,7,10,11],[])),(9,([0,1,2,4,5,6,9,3,7,8,10],[])),(15,([0,1,3,4,5,6,2,7,8,9,10],[]))],[],[]⟩ (Lrg 2 8) [] hvc
def C76(P:aE)(t:Bool)(u:OA)(v w:Nat)(x:Bool)(y:OA)(z A:Nat)(B:Bool)(C:OA)(D E:Nat)(F:Bool)(G:OA)(H J:Nat)(h:aF)(K:VP):Prop:=
 aC P B3l #[Qv B C D E F G H J] h (fun L a=>∃ c d e f g i j k,L=Qv c d e f g i j k/\h.le a/\aC P B3n #[Qv t u v w x y z A,Qv c d e f g i j k] a (fun M b=>∃ l m n o p q r s,M=Qv l m n o p q r s/\a.le b/\K (Qv l m n o p q r s) b))
def C2b a b c d e f g i j k l m n o p q(hvc:C76 prog a b c d e f g i j k l m n o p q h K):aC prog A89 #[Qv a b c d e f g i,Qv j k l m n o p q] h K:=
 fnk func180 an0 [2,3,4] [] hvc
def C79(P:aE)(a:Bool)(b:OA)(c d:Nat)(t:Bool)(u:OA)(v w:Nat)(e:Bool)(f:OA)(g i:Nat)(x:Bool)(y:OA)(z A:Nat)(h:aF)(K:VP):Prop:=
 ∃ (k:LP),(aC P F0 #[Zv a b c d] h (fun d3 a0=>∃ (B:Bool),d3= .bool B/\Br B (k [.bool true] a0)
 (aC P F0 #[Zv e f g i] a0 (fun d4 d5=>∃ (C:Bool),d4= .bool C/\k [.bool C] d5))))/\
 ∀ a3 s,k [.bool a3] s->Br a3 (K (Qv false none 0 0 false none 0 0) s)
 (∃ (l:LP),(aC P F0 #[Zv t u v w] s (fun d6 a1=>∃ (D:Bool),d6= .bool D/\Br D (aC P F0 #[Zv x y z A] a1 (fun d7 d8=>∃ (E:Bool),d7= .bool E/\l [.bool E] d8))
 (l [.bool false] a1)))/\
 ∀ a4 j,l [.bool a4] j->Br a4 (aC P Bw #[Zv a b c d,Zv e f g i] j (fun d9 e0=>∃ a5 a6 a7 a8,d9=Zv a5 a6 a7 a8/\K (Qv a5 a6 a7 a8 false none 0 0) e0))
 (aC P Rt #[Qv e f g i x y z A] j (fun e1 m=>∃ a9 b0 b1 b2,e1=Zv a9 b0 b1 b2/\j.le m/\aC P Oc #[Zv a b c d,Zv a9 b0 b1 b2] m (fun e2 n=>∃ (F:Bool) (G:OA) (H J:Nat) (L:Bool) (M:OA) (N O:Nat),e2= .tuple #[Zv F G H J,Zv L M N O]/\m.le n/\aC P Rt #[Qv a b c d t u v w] n (fun e3 o=>∃ b3 b4 b5 b6,e3=Zv b3 b4 b5 b6/\n.le o/\aC P Oc #[Zv e f g i,Zv b3 b4 b5 b6] o (fun e4 p=>∃ (Q:Bool) (R:OA) (S T:Nat) (V:Bool) (W:OA) (X Z:Nat),e4= .tuple #[Zv Q R S T,Zv V W X Z]/\o.le p/\aC P Bw #[Zv F G H J,Zv Q R S T] p (fun e5 q=>∃ b7 b8 b9 c0,e5=Zv b7 b8 b9 c0/\p.le q/\aC P Bw #[Zv V W X Z,Zv L M N O] q (fun e6 r=>∃ c1 c2 c3 c4,e6=Zv c1 c2 c3 c4/\q.le r/\aC P Y4 #[Zv b7 b8 b9 c0,Zv c1 c2 c3 c4] r (fun e7 a2=>∃ c5 c6 c7 c8 c9 d0 d1 d2,e7=Qv c5 c6 c7 c8 c9 d0 d1 d2/\r.le a2/\K (Qv c5 c6 c7 c8 c9 d0 d1 d2) a2)))))))))
def C2e a b c d e f g i j k l m n o p q(hvc:C79 prog a b c d e f g i j k l m n o p q h K):aC prog B3m #[Qv a b c d e f g i,Qv j k l m n o p q] h K:=
 fnk func103 ⟨[],[(2,⟨[16],[],[.bool false],⟨(Lrg 9 8),[]⟩⟩),(4,⟨[25],[],[.bool false],⟨(Lrg 18 8),[]⟩⟩)],[(5,([0,1,2,8,9,3,4,5,6,7,10,11],[])),(6,([0,1,2,8,9,3,4,5,6,7,10,11],[])),(7,([0,1,3,4,2,5,6,7],[]))],[],[]⟩ [2,3,4,5,6,7,8] [] hvc
def A8x(P:aE)(a:Bool)(b:OA)(c d:Nat)(l:Bool)(m:OA)(n o:Nat)(h:aF)(K:VP):Prop:=
 aC P Vc #[Zv a b c d] h (fun a2 e=>∃ k,a2=I k/\Br (k==(0:Int)) (K (Qv false none 0 0 false none 0 0) e)
 (Br (k==(-1:Int)) (aC P Rt #[Qv a b c d l m n o] e (fun a3 f=>∃ r s t u,a3=Zv r s t u/\e.le f/\aC P Oa #[Zv r s t u] f (fun a4 g=>∃ v w x y,a4=Zv v w x y/\f.le g/\aC P Oa #[Zv a b c d] g (fun a5 i=>∃ z A B C,a5=Zv z A B C/\g.le i/\aC P Y4 #[Zv v w x y,Zv z A B C] i (fun a6 p=>∃ D E F G H J L M,a6=Qv D E F G H J L M/\i.le p/\K (Qv D E F G H J L M) p)))))
 (aC P Rt #[Qv a b c d l m n o] e (fun a7 j=>∃ N O Q R,a7=Zv N O Q R/\e.le j/\aC P Y4 #[Zv N O Q R,Zv a b c d] j (fun a8 q=>∃ S T V W X Z a0 a1,a8=Qv S T V W X Z a0 a1/\j.le q/\K (Qv S T V W X Z a0 a1) q)))))
def A75 a b c d e f g i(hvc:A8x prog a b c d e f g i h K):aC prog Qi #[Qv a b c d e f g i] h K:=
 fnk func220 { orders:=[(5,([0,3,4,1,2,5,6,7],[])),(6,([0,2,3,1,4,5],[]))] } [1,2] [] hvc
def C7a(P:aE)(t:Bool)(u:OA)(v w:Nat)(x:Bool)(y:OA)(z A:Nat)(B:Bool)(C:OA)(D E:Nat)(F:Bool)(G:OA)(H J:Nat)(h:aF)(K:VP):Prop:=
 aC P Qi #[Qv B C D E F G H J] h (fun L a=>∃ c d e f g i j k,L=Qv c d e f g i j k/\h.le a/\aC P B3m #[Qv t u v w x y z A,Qv c d e f g i j k] a (fun M b=>∃ l m n o p q r s,M=Qv l m n o p q r s/\a.le b/\K (Qv l m n o p q r s) b))
def C2f a b c d e f g i j k l m n o p q(hvc:C7a prog a b c d e f g i j k l m n o p q h K):aC prog Yt #[Qv a b c d e f g i,Qv j k l m n o p q] h K:=
 fnk func160 an0 [2,3,4] [] hvc
