/- A part. -/
import Derived.Test.YtmbfcbbkbefgfaaGreatDoorG28
import Derived.Test.YtmbfcbbkbefgfaaGreatDoorG29
open Go.Proofs.Tryz
set_option linter.all false
open _root_.Go.Addr renaming add->aC
open _root_.Go.Builtin renaming append_->aJ
open _root_.Go.Instr renaming storeAt->aF,buildSlice->aG,makeSlice->aH
open _root_.Go renaming Program->aE
open _root_.Go.Proofs.YtmbfcbbkbefgfaaGreatDoor renaming FCall->aD,Heap->aI
namespace Go.Proofs.YtmbfcbbkbefgfaaGreatDoor
open Go
set_option maxRecDepth 100000
variable {h:aI} {K:VP}
abbrev Mh:Nat:=258
abbrev Qz:Nat:=199
abbrev Ra:Nat:=257
abbrev B85:Nat:=223
abbrev B9h:Nat:=143
abbrev B9i:Nat:=222
abbrev Bm:Nat:=256
abbrev L8:Nat:=198
abbrev Pf:Nat:=110
abbrev Qx:Nat:=65
abbrev B84:Nat:=142
abbrev B9g:Nat:=72
abbrev Bn:Nat:=66
abbrev X5:Nat:=14
abbrev Aw:Nat:=67
abbrev Rc:Nat:=16
abbrev B5b:Nat:=73
abbrev B82:Nat:=75
abbrev B3f:Nat:=15
abbrev B81:Nat:=17
abbrev Eb:Nat:=10
abbrev A2f:Nat:=11
abbrev B20:Nat:=18
abbrev Ki:Nat:=77
abbrev A88:Nat:=3
abbrev A3a:Nat:=145
abbrev B73:Nat:=22
abbrev B4i:Nat:=101
abbrev I8:Nat:=164
abbrev C8:Nat:=261
def Dm:SliceT prog I8 C8 (.agg #[I 0,I 0,I 0,I 0,I 0,I 0,.bool false,Sl none 0 0,.bool false,Sl none 0 0]) 10 112:=⟨by kernel_rfl,by kernel_rfl,rfl,by decide⟩
def Yz:prog.cellsOf C8=10/\(prog.info? C8).isSome=true:=⟨by kernel_rfl,by kernel_rfl⟩
abbrev B6o:Nat:=110
abbrev B2x:Nat:=194
abbrev C00:Nat:=115
abbrev B76:Nat:=120
abbrev B0r:Nat:=105
abbrev Gt:Nat:=25
def C08:SliceT prog B0r Gt (N0) 1 24:=⟨by kernel_rfl,by kernel_rfl,rfl,by decide⟩
def A6t:prog.cellsOf Gt=1/\(prog.info? Gt).isSome=true:=⟨by kernel_rfl,by kernel_rfl⟩
def Zg:prog.cellsOf A3a=4/\(prog.info? A3a).isSome=true:=⟨by kernel_rfl,by kernel_rfl⟩
def A4d(P:aE)(j:OA)(e k:Nat)(h:aI)(K:VP):Prop:=
 Bd ((e:Int)>6) (K (I (-1:Int)) h)
 (∃ (f:LP) (g:LN),f [I 0,I 0] h/\
 ∀ c b a,f [I c,I b] a->Bd (b<(e:Int)) (∃ i,Ax j i b e <| ∃ d,a.cell? (i.add (b.toNat*1))=some (I d)/\Bd (d<0) (K (I (-1:Int)) a)
 (Bd (d>(B4 ((24:Int)-c))) (K (I (-1:Int)) a)
 (f [I (B4 (c+d)),I (B4 (b+1))] a/\g [I (B4 (c+d)),I (B4 (b+1))] a<g [I c,I b] a)))
 (K (I c) a))
def A31 a b c(hvc:A4d prog a b c h K):aD prog Mh #[Sl a b c] h K:=
 fnk func258 { loops:=[(5,⟨[3,11],[],[I 0,I 0],⟨([2,3,5]++Lrg 11 16),[]⟩⟩)] } [] [] hvc
def A9y(P:aE)(b:OA)(c d:Nat)(h:aI)(K:VP):Prop:=
 aD P Mh #[Sl b c d] h (fun e f=>∃ a,e=I a/\K (.bool (decide (a>=0))) f)
def A5t a b c(hvc:A9y prog a b c h K):aD prog Qz #[Sl a b c] h K:=
 fnk func199 an0 [] [] hvc
def A9z(P:aE)(i:OA)(g H:Nat)(j:OA)(k J:Nat)(h:aI)(K:VP):Prop:=
 ∃ (l:LP) (p:LN),l [I 0,I 0,I 0] h/\
 ∀ e f c d,l [I e,I f,I c] d->Bd (c<(g:Int)) (∃ s,Ax i s c g <| ∃ n,d.cell? (s.add (c.toNat*1))=some (I n)/\∃ t,Ax j t c k <| ∃ o,d.cell? (t.add (c.toNat*1))=some (I o)/\l [I (B4 (e+n)),I (B4 (f+o)),I (B4 (c+1))] d/\p [I (B4 (e+n)),I (B4 (f+o)),I (B4 (c+1))] d<p [I e,I f,I c] d)
 (Br (e != f) (aD P Kj #[I e,I f] d (fun E F=>∃ u,E=I u/\K (I u) F))
 (∃ (m:LP) (q:LN),m [I (B4 ((g:Int)-1))] d/\
 ∀ a b,m [I a] b->Bd (a>=0) (∃ v,Ax i v a g <| ∃ w,b.cell? (v.add (a.toNat*1))=some (I w)/\∃ x,Ax j x a k <| ∃ y,b.cell? (x.add (a.toNat*1))=some (I y)/\Br (w != y) (∃ z,Ax j z a k <| ∃ A,b.cell? (z.add (a.toNat*1))=some (I A)/\∃ B,Ax i B a g <| ∃ C,b.cell? (B.add (a.toNat*1))=some (I C)/\aD P Kj #[I A,I C] b (fun G r=>∃ D,G=I D/\b.le r/\K (I D) r))
 (m [I (B4 (a-1))] b/\q [I (B4 (a-1))] b<q [I a] b))
 (K (I 0) b)))
def A5u a b c d e f(hvc:A9z prog a b c d e f h K):aD prog Ra #[Sl a b c,Sl d e f] h K:=
 fnk func257 { loops:=[(3,⟨[5,6,12],[],[I 0,I 0,I 0],⟨([5,6,7,8]++Lrg 12 15),[]⟩⟩),(11,⟨[9],[],[I 0],⟨([4,9]++Lrg 36 22),[]⟩⟩)] } [] [] hvc
def Mz(P:aE)(a4:Int)(a5:ByteArray)(F:OA)(e a6:Nat)(h:aI)(K:VP):Prop:=
 aD P Qu #[.string a5] h (fun a7 a2=>∃ (u:Bool) (v:OA) (w x:Nat) (y:Bool) (z:OA) (A B:Nat) (G:Bool),a7= .tuple #[Qv u v w x y z A B,.bool G]/\Br (!G) (K (.tuple #[.agg #[I 0,I 0,I 0,I 0,I 0,I 0,.bool false,Sl none 0 0,.bool false,Sl none 0 0],.bool false]) a2)
 (aD P Cu #[Qv u v w x y z A B] a2 (fun a8 D=>∃ (H:Bool),a8= .bool H/\Br H (K (.tuple #[.agg #[I 0,I 0,I 0,I 0,I 0,I 0,.bool false,Sl none 0 0,.bool false,Sl none 0 0],.bool false]) D)
 (Br ((e:Int) != a4) (K (.tuple #[.agg #[I 0,I 0,I 0,I 0,I 0,I 0,.bool false,Sl none 0 0,.bool false,Sl none 0 0],.bool false]) D)
 (∃ (C:LP) (J:LN),C [I 0,I 0,I 0,I 0,I 0,I 0,I 0,.bool false,N0,.bool false,N0] D/\
 ∀ d f g i j k l m n o p q r s t c,C [I d,I f,I g,I i,I j,I k,I l,.bool m,.slice n o p,.bool q,.slice r s t] c->Bd (d<(e:Int)) (∃ a3,Ax F a3 d e <| ∃ E,c.cell? (a3.add (d.toNat*1))=some (I E)/\Bd (E<0) (K (.tuple #[.agg #[I 0,I 0,I 0,I 0,I 0,I 0,.bool false,Sl none 0 0,.bool false,Sl none 0 0],.bool false]) c)
 (Bd (E>1048576) (K (.tuple #[.agg #[I 0,I 0,I 0,I 0,I 0,I 0,.bool false,Sl none 0 0,.bool false,Sl none 0 0],.bool false]) c)
 (C [I (B4 (d+1)),I f,I g,I i,I j,I k,I l,.bool m,.slice n o p,.bool q,.slice r s t] c/\J [I (B4 (d+1)),I f,I g,I i,I j,I k,I l,.bool m,.slice n o p,.bool q,.slice r s t] c<J [I d,I f,I g,I i,I j,I k,I l,.bool m,.slice n o p,.bool q,.slice r s t] c)))
 (wpH P (Instr.alloc 261 true (T0)) (fun a9 b0=>∃ (a:Addr),a9=Pt a/\wpH P (aF 145 (Pt (a.add 6)) (Qv u v w x y z A B)) (fun _ b1=>wpH P (Builtin.copy_ #[70,70] 3 #[.slice (J6 (some (a.add 0)) 6 0 1) (6-0) (6-0),Sl F e a6]) (fun b2 b=>∃ b3,b2=I b3/\∃ (L:Int) (M:Int) (N:Int) (O:Int) (Q:Int) (R:Int) (S:Bool) (T:OA) (V W:Nat) (X:Bool) (Z:OA) (a0 a1:Nat),b.cell? (a.add 0)=some (I L)/\b.cell? (a.add 1)=some (I M)/\b.cell? (a.add 2)=some (I N)/\b.cell? (a.add 3)=some (I O)/\b.cell? (a.add 4)=some (I Q)/\b.cell? (a.add 5)=some (I R)/\b.cell? (a.add 6)=some (.bool S)/\b.cell? (a.add 7)=some (.slice T V W)/\b.cell? (a.add 8)=some (.bool X)/\b.cell? (a.add 9)=some (.slice Z a0 a1)/\K (.tuple #[.agg #[I L,I M,I N,I O,I Q,I R,.bool S,Sl T V W,.bool X,Sl Z a0 a1],.bool true]) b) b1) b0) c))))))
def Lf a b c d e(hvc:Mz prog a b c d e h K):aD prog Bm #[I a,.agg #[.string b,Sl c d e]] h K:=
 fnk func256 { loops:=[(5,⟨[34],[(4,10)],[I 0,I 0,I 0,I 0,I 0,I 0,I 0,.bool false,N0,.bool false,N0],⟨([5,9]++Lrg 34 12),[4]⟩⟩)] } [3,4,6] [] hvc
def Z2(P:aE)(k:Int)(M:OA)(g b8:Nat)(h:aI)(K:VP):Prop:=
 Bd (k<0) (K (.tuple #[Sl none 0 0,.bool false]) h)
 (Bd (k>6) (K (.tuple #[Sl none 0 0,.bool false]) h)
 (wpH P (aH 164 (I 0) (I (g:Int))) (fun a8 a9=>∃ S T V,a8=Sl S T V/\∃ (i:LP) (j:LN),i [.slice S T V,I 0] a9/\
 ∀ c d e a b,i [.slice c d e,I a] b->Bd (a<(g:Int)) (∃ D,Ax M D a g <| ∃ (N:ByteArray) (l:OA) (m n:Nat),b.cell? (aC (D.add (a.toNat*2)) 0)=some (.string N)/\b.cell? (aC (D.add (a.toNat*2)) 1)=some (.slice l m n)/\aD P Bm #[I k,.agg #[.string N,Sl l m n]] b (fun b0 f=>∃ (o:Int) (p:Int) (q:Int) (r:Int) (s:Int) (t:Int) (u:Bool) (v:OA) (w x:Nat) (y:Bool) (z:OA) (A B:Nat) (O:Bool),b0= .tuple #[.agg #[I o,I p,I q,I r,I s,I t,.bool u,Sl v w x,.bool y,Sl z A B],.bool O]/\Br (!O) (K (.tuple #[Sl none 0 0,.bool false]) f)
 (Bd (a>0) (∃ W,Ax M W (B4 (a-1)) g <| ∃ X Z a0,Hd f (aC (W.add ((B4 (a-1)).toNat*2)) 1) X Z a0<|aD P Ra #[Sl X Z a0,Sl l m n] f (fun b1 C=>∃ a1,b1=I a1/\f.le C/\Bd (a1<=0) (K (.tuple #[Sl none 0 0,.bool false]) C)
 (wpH P (aG 164 1 #[(0,.agg #[I o,I p,I q,I r,I s,I t,.bool u,Sl v w x,.bool y,Sl z A B])]) (fun b2 b3=>∃ a2 a3 a4,b2=Sl a2 a3 a4/\wpH P (aJ #[164,164] 164 #[Sl c d e,Sl a2 a3 a4]) (fun b4 Q=>∃ E F G,b4=Sl E F G/\i [.slice E F G,I (B4 (a+1))] Q/\j [.slice E F G,I (B4 (a+1))] Q<j [.slice c d e,I a] b) b3) C)))
 (wpH P (aG 164 1 #[(0,.agg #[I o,I p,I q,I r,I s,I t,.bool u,Sl v w x,.bool y,Sl z A B])]) (fun b5 b6=>∃ a5 a6 a7,b5=Sl a5 a6 a7/\wpH P (aJ #[164,164] 164 #[Sl c d e,Sl a5 a6 a7]) (fun b7 R=>∃ H J L,b7=Sl H J L/\i [.slice H J L,I (B4 (a+1))] R/\j [.slice H J L,I (B4 (a+1))] R<j [.slice c d e,I a] b) b6) f))))
 (K (.tuple #[Sl c d e,.bool true]) b)) h))
def Bc a b c d(hvc:Z2 prog a b c d h K):aD prog L8 #[.agg #[I a,Sl b c d]] h K:=
 fnk func198 { loops:=[(5,⟨[4,24],[],[N0,I 0],⟨([2,3,4,5,6,7,8]++Lrg 24 36),[6,7]⟩⟩)] } [1,6,7] [] hvc
def A9v(P:aE)(o:Int)(f:OA)(a p:Nat)(h:aI)(K:VP):Prop:=
 Bd ((a:Int)>4096) (K (.tuple #[Sl none 0 0,.bool false]) h)
 (aD P L8 #[.agg #[I o,Sl f a p]] h (fun q b=>∃ (c:OA) (d e:Nat) (g:Bool),q= .tuple #[Sl c d e,.bool g]/\Br (!g) (K (.tuple #[Sl none 0 0,.bool false]) b)
 (Bd ((a:Int)>0) (∃ k,Ax f k (0:Int) a <| ∃ l m n,Hd b (aC (k.add (((0:Int)).toNat*2)) 1) l m n<|aD P Qz #[Sl l m n] b (fun r j=>∃ (i:Bool),r= .bool i/\Br (!i) (K (.tuple #[Sl none 0 0,.bool false]) j)
 (K (.tuple #[Sl c d e,.bool true]) j)))
 (K (.tuple #[Sl c d e,.bool true]) b))))
def A0w a b c d(hvc:A9v prog a b c d h K):aD prog Pf #[.agg #[I a,Sl b c d]] h K:=
 fnk func110 an0 [1] [] hvc
def A9u(P:aE)(b:Int)(c:OA)(d e:Nat)(h:aI)(K:VP):Prop:=
 aD P Pf #[.agg #[I b,Sl c d e]] h (fun j k=>∃ (f:OA) (g i:Nat) (a:Bool),j= .tuple #[Sl f g i,.bool a]/\K (.bool a) k)
def A5r a b c d(hvc:A9u prog a b c d h K):aD prog Qx #[.agg #[I a,Sl b c d]] h K:=
 fnk func65 an0 [1] [] hvc
def Ve(P:aE)(l:OA)(f n:Nat)(h:aI)(K:VP):Prop:=
 ∃ (c:LP) (g:LN),c [I 0] h/\
 ∀ a b,c [I a] b->Bd (a<(f:Int)) (∃ e,Ax l e a f <| ∃ (i j:ByteArray),b.cell? (aC (e.add (a.toNat*2)) 0)=some (.string i)/\b.cell? (aC (e.add (a.toNat*2)) 1)=some (.string j)/\aD P Q4 #[.agg #[.string i,.string j]] b (fun m d=>∃ (k:Bool),m= .bool k/\Br (!k) (K (.bool false) d)
 (c [I (B4 (a+1))] d/\g [I (B4 (a+1))] d<g [I a] b)))
 (K (.bool true) b)
def Yd a b c(hvc:Ve prog a b c h K):aD prog Bn #[Sl a b c] h K:=
 fnk func66 { loops:=[(2,⟨[7],[],[I 0],⟨([2,4]++Lrg 7 8),[4]⟩⟩)] } [4] [] hvc
def Vh(P:aE)(u:Int)(v:OA)(p M:Nat)(N:OA)(j c7:Nat)(h:aI)(K:VP):Prop:=
 aD P Qx #[.agg #[I u,Sl v p M]] h (fun c9 a9=>∃ (O:Bool),c9= .bool O/\Br (!O) (K (.tuple #[.agg #[.string ({ data:=#[] }:ByteArray),.string ({ data:=#[] }:ByteArray)],I 1]) a9)
 (aD P Bn #[Sl N j c7] a9 (fun d0 E=>∃ (Q:Bool),d0= .bool Q/\Br (!Q) (K (.tuple #[.agg #[.string ({ data:=#[] }:ByteArray),.string ({ data:=#[] }:ByteArray)],I 1]) E)
 (Br ((j:Int) != u) (K (.tuple #[.agg #[.string ({ data:=#[] }:ByteArray),.string ({ data:=#[] }:ByteArray)],I 4]) E)
 (wpH P (aH 105 (I (j:Int)) (I (j:Int))) (fun d1 d2=>∃ m n e4,d1=Sl m n e4/\∃ (w:LP) (R:LN),w [I 0] d2/\
 ∀ a k,w [I a] k->Bd (a<(j:Int)) (∃ G,Ax N G a j <| ∃ (S T:ByteArray),k.cell? (aC (G.add (a.toNat*2)) 0)=some (.string S)/\k.cell? (aC (G.add (a.toNat*2)) 1)=some (.string T)/\aD P Aw #[.agg #[I u,Sl v p M],I a] k (fun d3 d4=>∃ H,d3=I H/\wpH P (aH 25 (I (B4 (H+1))) (I (B4 (H+1)))) (fun d5 d6=>∃ b4 b5 b6,d5=Sl b4 b5 b6/\∃ b7,Ax m b7 a n<|wpH P (aF 25 (Pt (b7.add (a.toNat*1))) (.slice b4 b5 b6)) (fun _ b0=>∃ b8,Ax m b8 a n <| ∃ e5 W e6,Hd b0 (b8.add (a.toNat*1)) e5 W e6 <| ∃ (x:LP) (V:LN),x [I 0] b0/\
 ∀ d f,x [I d] f->Bd (d<(W:Int)) (∃ b9,Ax m b9 a n <| ∃ c0 c1 e7,Hd f (b9.add (a.toNat*1)) c0 c1 e7<|aD P Pg #[.agg #[.string S,.string T],I d] f (fun d7 b1=>∃ (X Z:ByteArray),d7= .agg #[.string X,.string Z]/\f.le b1/\∃ c2,Ax c0 c2 d c1<|wpH P (aF 30 (Pt (c2.add (d.toNat*2))) (.agg #[.string X,.string Z])) (fun _ b2=>x [I (B4 (d+1))] b2/\V [I (B4 (d+1))] b2<V [I d] f) b1))
 (w [I (B4 (a+1))] f/\R [I (B4 (a+1))] f<R [I a] k)) d6) d4))
 (aD P Kh #[.string ({ data:=#[48] }:ByteArray)] k (fun d8 d9=>∃ (a0 a1:ByteArray),d8= .agg #[.string a0,.string a1]/\∃ (y:LP) (a2:LN),y [I 0,.string a0,.string a1] d9/\
 ∀ e s t l,y [I e,.string s,.string t] l->Bd (e<(p:Int)) (∃ J,Ax v J e p <| ∃ (a3:ByteArray) (a4:OA) (z c8:Nat),l.cell? (aC (J.add (e.toNat*2)) 0)=some (.string a3)/\l.cell? (aC (J.add (e.toNat*2)) 1)=some (.slice a4 z c8)/\aD P Kh #[.string a3] l (fun e0 e1=>∃ (a5 a6:ByteArray),e0= .agg #[.string a5,.string a6]/\∃ (q:LP) (r:LN),q [I 0,.string a5,.string a6] e1/\
 ∀ b g i c,q [I b,.string g,.string i] c->Bd (b<(z:Int)) (∃ c3,Ax a4 c3 b z <| ∃ o,c.cell? (c3.add (b.toNat*1))=some (I o)/\Bd (o>0) (∃ c4,Ax m c4 b n <| ∃ c5 c6 e8,Hd c (c4.add (b.toNat*1)) c5 c6 e8 <| ∃ L,Ax c5 L o c6 <| ∃ (a7 a8:ByteArray),c.cell? (aC (L.add (o.toNat*2)) 0)=some (.string a7)/\c.cell? (aC (L.add (o.toNat*2)) 1)=some (.string a8)/\aD P Ph #[.agg #[.string g,.string i],.agg #[.string a7,.string a8]] c (fun e2 F=>∃ (A B:ByteArray),e2= .agg #[.string A,.string B]/\c.le F/\q [I (B4 (b+1)),.string A,.string B] F/\r [I (B4 (b+1)),.string A,.string B] F<r [I b,.string g,.string i] c))
 (q [I (B4 (b+1)),.string g,.string i] c/\r [I (B4 (b+1)),.string g,.string i] c<r [I b,.string g,.string i] c))
 (aD P Xi #[.agg #[.string s,.string t],.agg #[.string g,.string i]] c (fun e3 b3=>∃ (C D:ByteArray),e3= .agg #[.string C,.string D]/\y [I (B4 (e+1)),.string C,.string D] b3/\a2 [I (B4 (e+1)),.string C,.string D] b3<a2 [I e,.string s,.string t] l))))
 (K (.tuple #[.agg #[.string s,.string t],I 0]) l)))) E)))))
def Yg a b c d e f g(hvc:Vh prog a b c d e f g h K):aD prog X5 #[.agg #[I a,Sl b c d],.slice e f g] h K:=
 fnk func14 { loops:=[(7,⟨[36],[],[I 0],⟨([7,8,9]++Lrg 36 32),[8]⟩⟩),(11,⟨[54],[],[I 0],⟨([9]++Lrg 54 13),[]⟩⟩),(18,⟨[72],[(10,2)],[I 0,.string ⟨#[]⟩,.string ⟨#[]⟩],⟨([12,13,14,15]++Lrg 72 31),[10,12,13]⟩⟩),(22,⟨[82],[(13,2)],[I 0,.string ⟨#[]⟩,.string ⟨#[]⟩],⟨([14,15]++Lrg 82 17),[13]⟩⟩)] } [2,4,8,10,12,13] [] hvc
def Lh(P:aE)(q:Int)(n:OA)(g r:Nat)(i:Int)(h:aI)(K:VP):Prop:=
 ∃ (e:LP) (j:LN),e [I 0,I 0] h/\
 ∀ c a b,e [I c,I a] b->Bd (a<(g:Int)) (∃ f,Ax n f a g <| ∃ (o:ByteArray) (k:OA) (l p:Nat),b.cell? (aC (f.add (a.toNat*2)) 0)=some (.string o)/\b.cell? (aC (f.add (a.toNat*2)) 1)=some (.slice k l p)/\∃ m,Ax k m i l <| ∃ d,b.cell? (m.add (i.toNat*1))=some (I d)/\e [I (if d>c then d else c),I (B4 (a+1))] b/\j [I (if d>c then d else c),I (B4 (a+1))] b<j [I c,I a] b)
 (K (I c) b)
def Oy a b c d e(hvc:Lh prog a b c d e h K):aD prog Aw #[.agg #[I a,Sl b c d],I e] h K:=
 fnk func67 { loops:=[(3,⟨[5,11],[],[I 0,I 0],⟨([5,7]++Lrg 11 12),[7]⟩⟩)] } [2,7] [] hvc
def B05(P:aE)(d:OA)(c f:Nat)(a:Int)(e:ByteArray)(h:aI)(K:VP):Prop:=
 aD P Bn #[Sl d c f] h (fun x r=>∃ (m:Bool),x= .bool m/\Br (!m) (K (.tuple #[Sl none 0 0,Sl none 0 0,I 1]) r)
 (aD P Dy #[.string e] r (fun y b=>∃ (n:Bool),y= .bool n/\Br (!n) (K (.tuple #[Sl none 0 0,Sl none 0 0,I 1]) b)
 (Bd (a<0) (K (.tuple #[Sl none 0 0,Sl none 0 0,I 3]) b)
 (Bd (a>=(c:Int)) (K (.tuple #[Sl none 0 0,Sl none 0 0,I 3]) b)
 (∃ g,Ax d g a c <| ∃ (o p:ByteArray),b.cell? (aC (g.add (a.toNat*2)) 0)=some (.string o)/\b.cell? (aC (g.add (a.toNat*2)) 1)=some (.string p)/\aD P R8 #[.agg #[.string o,.string p],.string e] b (fun z s=>∃ (q:Bool),z= .bool q/\Br (!q) (K (.tuple #[Sl none 0 0,Sl none 0 0,I 3]) s)
 (aD P Ki #[Sl d c f] s (fun A B=>∃ i j t,A=Sl i j t/\aD P Ki #[Sl d c f] B (fun C D=>∃ k l u,C=Sl k l u/\∃ v,Ax i v a j<|wpH P (aF 9 (Pt (aC (v.add (a.toNat*2)) 1)) (.string e)) (fun _ E=>∃ w,Ax k w a l<|wpH P (aF 9 (Pt (aC (w.add (a.toNat*2)) 0)) (.string e)) (fun _ F=>K (.tuple #[Sl i j t,Sl k l u,I 0]) F) E) D))))))))))
def A5x a b c d e(hvc:B05 prog a b c d e h K):aD prog Rc #[Sl a b c,I d,.string e] h K:=
 fnk func16 an0 [] [] hvc
def Sk(P:aE)(p:Int)(e:OA)(c q:Nat)(l:Int)(m:Int)(h:aI)(K:VP):Prop:=
 Bd ((c:Int)>l) (K (.bool false) h)
 (∃ (d:LP) (f:LN),d [I 0] h/\
 ∀ a b,d [I a] b->Bd (a<(c:Int)) (∃ j,Ax e j a c <| ∃ (g:ByteArray),b.cell? (aC (j.add (a.toNat*2)) 0)=some (.string g)/\Bd (((ByteArray.size g:Nat):Int)>m) (K (.bool false) b)
 (∃ k,Ax e k a c <| ∃ n i o,Hd b (aC (k.add (a.toNat*2)) 1) n i o<|Bd ((i:Int)>12) (K (.bool false) b)
 (d [I (B4 (a+1))] b/\f [I (B4 (a+1))] b<f [I a] b)))
 (K (.bool true) b))
def Tl a b c d e f(hvc:Sk prog a b c d e f h K):aD prog Eb #[.agg #[I a,Sl b c d],I e,I f] h K:=
 fnk func10 { loops:=[(4,⟨[7],[],[I 0],⟨([6,7]++Lrg 13 26),[]⟩⟩)] } [3] [] hvc
def B93(P:aE)(s:Int)(i:OA)(e y:Nat)(t:Int)(u:Int)(h:aI)(K:VP):Prop:=
 Bd (s>t) (K (.bool false) h)
 (∃ (f:LP) (j:LN),f [I 0] h/\
 ∀ b d,f [I b] d->Bd (b<(e:Int)) (∃ (g:LP) (k:LN),g [I 0] d/\
 ∀ c a,g [I c] a->∃ m,Ax i m b e <| ∃ v l w,Hd a (aC (m.add (b.toNat*2)) 1) v l w<|Bd (c<(l:Int)) (∃ n,Ax i n b e <| ∃ o p x,Hd a (aC (n.add (b.toNat*2)) 1) o p x <| ∃ q,Ax o q c p <| ∃ r,a.cell? (q.add (c.toNat*1))=some (I r)/\Bd (r>u) (K (.bool false) a)
 (g [I (B4 (c+1))] a/\k [I (B4 (c+1))] a<k [I c] a))
 (f [I (B4 (b+1))] a/\j [I (B4 (b+1))] a<j [I b] d))
 (K (.bool true) d))
def B2s a b c d e f(hvc:B93 prog a b c d e f h K):aD prog A2f #[.agg #[I a,Sl b c d],I e,I f] h K:=
 fnk func11 { loops:=[(4,⟨[7],[],[I 0],⟨([6,7,8]++Lrg 13 29),[]⟩⟩),(7,⟨[8],[],[I 0],⟨([6,8]++Lrg 20 22),[]⟩⟩)] } [3] [] hvc
def B0c(P:aE)(a:OA)(i j:Nat)(h:aI)(K:VP):Prop:=
 Br (Option.isNone a) (K (Sl none 0 0) h)
 (wpH P (aG 25 0 #[]) (fun k l=>∃ b c d,k=Sl b c d/\wpH P (aJ #[25,25] 25 #[Sl b c d,Sl a i j]) (fun m n=>∃ e f g,m=Sl e f g/\K (Sl e f g) n) l) h)
def A60 a b c(hvc:B0c prog a b c h K):aD prog Ki #[Sl a b c] h K:=
 fnk func77 an0 [] [] hvc
