/- A part. -/
import Derived.Test.YtmbfcbbkbefgfaaGreatDoorG28
import Derived.Test.YtmbfcbbkbefgfaaGreatDoorG29
open Go.Proofs.Tryz
set_option linter.all false
open _root_.Go.Addr renaming add->aC
open _root_.Go.Builtin renaming append_->aG
open _root_.Go.Instr renaming buildSlice->aF,storeAt->aH,makeSlice->aJ
open _root_.Go renaming Program->aE
open _root_.Go.Proofs.YtmbfcbbkbefgfaaGreatDoor renaming FCall->aD,Heap->aI
namespace Go.Proofs.YtmbfcbbkbefgfaaGreatDoor
open Go
set_option maxRecDepth 100000
variable {h:aI} {K:VP}
abbrev Nl:Nat:=258
abbrev Sb:Nat:=199
abbrev Sc:Nat:=257
abbrev Ry:Nat:=223
abbrev Yj:Nat:=143
abbrev Yk:Nat:=222
abbrev Gf:Nat:=256
abbrev S1:Nat:=198
abbrev A5h:Nat:=110
abbrev Rx:Nat:=65
abbrev Rw:Nat:=142
abbrev Yi:Nat:=72
abbrev Bw:Nat:=66
abbrev Gk:Nat:=14
abbrev Bg:Nat:=67
abbrev La:Nat:=16
abbrev Ee:Nat:=73
abbrev Ru:Nat:=75
abbrev X3:Nat:=15
abbrev Ks:Nat:=17
abbrev Ei:Nat:=10
abbrev A3w:Nat:=11
abbrev O3:Nat:=18
abbrev Lc:Nat:=77
abbrev Gi:Nat:=3
abbrev A4q:Nat:=145
abbrev B8w:Nat:=22
abbrev B6j:Nat:=101
abbrev Aw:Nat:=164
abbrev R4:Nat:=261
def Xh:SliceT prog Aw R4 (.agg #[I 0,I 0,I 0,I 0,I 0,I 0,.bool false,Sl none 0 0,.bool false,Sl none 0 0]) 10 112:=⟨by kernel_rfl,by kernel_rfl,rfl,by decide⟩
abbrev Am:Nat:=110
abbrev W4:Nat:=194
def B6p:SliceT prog Am W4 (.agg #[.bool false,Sl none 0 0,.bool false,Sl none 0 0,Sl none 0 0]) 5 88:=⟨by kernel_rfl,by kernel_rfl,rfl,by decide⟩
abbrev A88:Nat:=115
abbrev A06:Nat:=120
def C3p:SliceT prog A88 A06 (.agg #[.bool false,Sl none 0 0,.bool false,Sl none 0 0,.bool false,Sl none 0 0,.bool false,Sl none 0 0]) 8 128:=⟨by kernel_rfl,by kernel_rfl,rfl,by decide⟩
abbrev B2o:Nat:=105
abbrev Hi:Nat:=25
def C1k:SliceT prog B2o Hi (N0) 1 24:=⟨by kernel_rfl,by kernel_rfl,rfl,by decide⟩
def A8k:prog.cellsOf Hi=1/\(prog.info? Hi).isSome=true:=⟨by kernel_rfl,by kernel_rfl⟩
def A8u:prog.cellsOf A4q=4/\(prog.info? A4q).isSome=true:=⟨by kernel_rfl,by kernel_rfl⟩
def A5z(P:aE)(j:OA)(e k:Nat)(h:aI)(K:VP):Prop:=
 Bd ((e:Int)>6) (K (I (-1:Int)) h)
 (∃ (f:LP) (g:LN),f [I 0,I 0] h/\
 ∀ c b a,f [I c,I b] a->Bd (b<(e:Int)) (∃ i,Ax j i b e <| ∃ d,a.cell? (i.add (b.toNat*1))=some (I d)/\Bd (d<0) (K (I (-1:Int)) a)
 (Bd (d>(B5 ((24:Int)-c))) (K (I (-1:Int)) a)
 (f [I (B5 (c+d)),I (B5 (b+1))] a/\g [I (B5 (c+d)),I (B5 (b+1))] a<g [I c,I b] a)))
 (K (I c) a))
def A4h a b c(hvc:A5z prog a b c h K):aD prog Nl #[Sl a b c] h K:=
 fnk func258 { loops:=[(5,⟨[3,11],[],[I 0,I 0],⟨([2,3,5]++Lrg 11 16),[]⟩⟩)] } [] [] hvc
def B1w(P:aE)(b:OA)(c d:Nat)(h:aI)(K:VP):Prop:=
 aD P Nl #[Sl b c d] h (fun e f=>∃ a,e=I a/\K (.bool (decide (a>=0))) f)
def A7q a b c(hvc:B1w prog a b c h K):aD prog Sb #[Sl a b c] h K:=
 fnk func199 an0 [] [] hvc
def B1x(P:aE)(i:OA)(g H:Nat)(j:OA)(k J:Nat)(h:aI)(K:VP):Prop:=
 ∃ (l:LP) (p:LN),l [I 0,I 0,I 0] h/\
 ∀ e f c d,l [I e,I f,I c] d->Bd (c<(g:Int)) (∃ s,Ax i s c g <| ∃ n,d.cell? (s.add (c.toNat*1))=some (I n)/\∃ t,Ax j t c k <| ∃ o,d.cell? (t.add (c.toNat*1))=some (I o)/\l [I (B5 (e+n)),I (B5 (f+o)),I (B5 (c+1))] d/\p [I (B5 (e+n)),I (B5 (f+o)),I (B5 (c+1))] d<p [I e,I f,I c] d)
 (Br (e != f) (aD P Ld #[I e,I f] d (fun E F=>∃ u,E=I u/\K (I u) F))
 (∃ (m:LP) (q:LN),m [I (B5 ((g:Int)-1))] d/\
 ∀ a b,m [I a] b->Bd (a>=0) (∃ v,Ax i v a g <| ∃ w,b.cell? (v.add (a.toNat*1))=some (I w)/\∃ x,Ax j x a k <| ∃ y,b.cell? (x.add (a.toNat*1))=some (I y)/\Br (w != y) (∃ z,Ax j z a k <| ∃ A,b.cell? (z.add (a.toNat*1))=some (I A)/\∃ B,Ax i B a g <| ∃ C,b.cell? (B.add (a.toNat*1))=some (I C)/\aD P Ld #[I A,I C] b (fun G r=>∃ D,G=I D/\b.le r/\K (I D) r))
 (m [I (B5 (a-1))] b/\q [I (B5 (a-1))] b<q [I a] b))
 (K (I 0) b)))
def A7r a b c d e f(hvc:B1x prog a b c d e f h K):aD prog Sc #[Sl a b c,Sl d e f] h K:=
 fnk func257 { loops:=[(3,⟨[5,6,12],[],[I 0,I 0,I 0],⟨([5,6,7,8]++Lrg 12 15),[]⟩⟩),(11,⟨[9],[],[I 0],⟨([4,9]++Lrg 36 22),[]⟩⟩)] } [] [] hvc
def B1l(P:aE)(e:OA)(d o:Nat)(h:aI)(K:VP):Prop:=
 Bd ((d:Int)>6) (K (I (-1:Int)) h)
 (∃ (f:LP) (i:LN),f [I 0,I 0] h/\
 ∀ c a b,f [I c,I a] b->Bd (a<(d:Int)) (∃ j,Ax e j a d <| ∃ k,b.cell? (j.add (a.toNat*1))=some (I k)/\Bd (k<0) (K (I (-1:Int)) b)
 (∃ l,Ax e l a d <| ∃ m,b.cell? (l.add (a.toNat*1))=some (I m)/\Bd (m>(B5 ((24:Int)-c))) (K (I (-1:Int)) b)
 (∃ n,Ax e n a d <| ∃ g,b.cell? (n.add (a.toNat*1))=some (I g)/\f [I (B5 (c+g)),I (B5 (a+1))] b/\i [I (B5 (c+g)),I (B5 (a+1))] b<i [I c,I a] b)))
 (K (I c) b))
def A7i a b c(hvc:B1l prog a b c h K):aD prog Ry #[Sl a b c] h K:=
 fnk func223 { loops:=[(5,⟨[3,4],[],[I 0,I 0],⟨([2,3,4]++Lrg 8 26),[]⟩⟩)] } [] [] hvc
def B63(P:aE)(c:OA)(a d:Nat)(h:aI)(K:VP):Prop:=
 Bd ((a:Int)<=6) (aD P Ry #[Sl c a d] h (fun e f=>∃ b,e=I b/\K (.bool (decide (b>=0))) f))
 (K (.bool false) h)
def B1j a b c(hvc:B63 prog a b c h K):aD prog Yj #[Sl a b c] h K:=
 fnk func143 an0 [] [] hvc
def B64(P:aE)(i:OA)(g B:Nat)(j:OA)(k C:Nat)(h:aI)(K:VP):Prop:=
 ∃ (l:LP) (p:LN),l [I 0,I 0,I 0] h/\
 ∀ e f c d,l [I e,I f,I c] d->Bd (c<(g:Int)) (∃ r,Ax i r c g <| ∃ n,d.cell? (r.add (c.toNat*1))=some (I n)/\∃ s,Ax j s c k <| ∃ o,d.cell? (s.add (c.toNat*1))=some (I o)/\l [I (B5 (e+n)),I (B5 (f+o)),I (B5 (c+1))] d/\p [I (B5 (e+n)),I (B5 (f+o)),I (B5 (c+1))] d<p [I e,I f,I c] d)
 (Br (e != f) (Bd (e<f) (K (I (-1:Int)) d)
 (K (I 1) d))
 (∃ (m:LP) (q:LN),m [I (B5 ((g:Int)-1))] d/\
 ∀ a b,m [I a] b->Bd (a>=0) (∃ t,Ax i t a g <| ∃ u,b.cell? (t.add (a.toNat*1))=some (I u)/\∃ v,Ax j v a k <| ∃ w,b.cell? (v.add (a.toNat*1))=some (I w)/\Br (u != w) (∃ x,Ax i x a g <| ∃ y,b.cell? (x.add (a.toNat*1))=some (I y)/\∃ z,Ax j z a k <| ∃ A,b.cell? (z.add (a.toNat*1))=some (I A)/\Bd (y>A) (K (I (-1:Int)) b)
 (K (I 1) b))
 (m [I (B5 (a-1))] b/\q [I (B5 (a-1))] b<q [I a] b))
 (K (I 0) b)))
def B1k a b c d e f(hvc:B64 prog a b c d e f h K):aD prog Yk #[Sl a b c,Sl d e f] h K:=
 fnk func222 { loops:=[(3,⟨[5,6,7],[],[I 0,I 0,I 0],⟨([5,6,7]++Lrg 9 18),[]⟩⟩),(11,⟨[8],[],[I 0],⟨([4,8]++Lrg 36 22),[]⟩⟩)] } [] [] hvc
def Wk(P:aE)(a4:Int)(a5:ByteArray)(F:OA)(e a6:Nat)(h:aI)(K:VP):Prop:=
 aD P Yd #[.string a5] h (fun a7 a2=>∃ (u:Bool) (v:OA) (w x:Nat) (y:Bool) (z:OA) (A B:Nat) (G:Bool),a7= .tuple #[Qv u v w x y z A B,.bool G]/\Br (!G) (K (.tuple #[.agg #[I 0,I 0,I 0,I 0,I 0,I 0,.bool false,Sl none 0 0,.bool false,Sl none 0 0],.bool false]) a2)
 (aD P Db #[Qv u v w x y z A B] a2 (fun a8 D=>∃ (H:Bool),a8= .bool H/\Br H (K (.tuple #[.agg #[I 0,I 0,I 0,I 0,I 0,I 0,.bool false,Sl none 0 0,.bool false,Sl none 0 0],.bool false]) D)
 (Br ((e:Int) != a4) (K (.tuple #[.agg #[I 0,I 0,I 0,I 0,I 0,I 0,.bool false,Sl none 0 0,.bool false,Sl none 0 0],.bool false]) D)
 (∃ (C:LP) (J:LN),C [I 0,I 0,I 0,I 0,I 0,I 0,I 0,.bool false,N0,.bool false,N0] D/\
 ∀ d f g i j k l m n o p q r s t c,C [I d,I f,I g,I i,I j,I k,I l,.bool m,.slice n o p,.bool q,.slice r s t] c->Bd (d<(e:Int)) (∃ a3,Ax F a3 d e <| ∃ E,c.cell? (a3.add (d.toNat*1))=some (I E)/\Bd (E<0) (K (.tuple #[.agg #[I 0,I 0,I 0,I 0,I 0,I 0,.bool false,Sl none 0 0,.bool false,Sl none 0 0],.bool false]) c)
 (Bd (E>1048576) (K (.tuple #[.agg #[I 0,I 0,I 0,I 0,I 0,I 0,.bool false,Sl none 0 0,.bool false,Sl none 0 0],.bool false]) c)
 (C [I (B5 (d+1)),I f,I g,I i,I j,I k,I l,.bool m,.slice n o p,.bool q,.slice r s t] c/\J [I (B5 (d+1)),I f,I g,I i,I j,I k,I l,.bool m,.slice n o p,.bool q,.slice r s t] c<J [I d,I f,I g,I i,I j,I k,I l,.bool m,.slice n o p,.bool q,.slice r s t] c)))
 (wpH P (Instr.alloc 261 true (T0)) (fun a9 b0=>∃ (a:Addr),a9=Pt a/\wpH P (aH 145 (Pt (a.add 6)) (Qv u v w x y z A B)) (fun _ b1=>wpH P (Builtin.copy_ #[70,70] 3 #[.slice (J4 (some (a.add 0)) 6 0 1) (6-0) (6-0),Sl F e a6]) (fun b2 b=>∃ b3,b2=I b3/\∃ (L:Int) (M:Int) (N:Int) (O:Int) (Q:Int) (R:Int) (S:Bool) (T:OA) (V W:Nat) (X:Bool) (Z:OA) (a0 a1:Nat),b.cell? (a.add 0)=some (I L)/\b.cell? (a.add 1)=some (I M)/\b.cell? (a.add 2)=some (I N)/\b.cell? (a.add 3)=some (I O)/\b.cell? (a.add 4)=some (I Q)/\b.cell? (a.add 5)=some (I R)/\b.cell? (a.add 6)=some (.bool S)/\b.cell? (a.add 7)=some (.slice T V W)/\b.cell? (a.add 8)=some (.bool X)/\b.cell? (a.add 9)=some (.slice Z a0 a1)/\K (.tuple #[.agg #[I L,I M,I N,I O,I Q,I R,.bool S,Sl T V W,.bool X,Sl Z a0 a1],.bool true]) b) b1) b0) c))))))
def Zm a b c d e(hvc:Wk prog a b c d e h K):aD prog Gf #[I a,.agg #[.string b,Sl c d e]] h K:=
 fnk func256 { loops:=[(5,⟨[34],[(4,10)],[I 0,I 0,I 0,I 0,I 0,I 0,I 0,.bool false,N0,.bool false,N0],⟨([5,9]++Lrg 34 12),[4]⟩⟩)] } [3,4,6] [] hvc
def Fb(P:aE)(k:Int)(M:OA)(g b8:Nat)(h:aI)(K:VP):Prop:=
 Bd (k<0) (K (.tuple #[Sl none 0 0,.bool false]) h)
 (Bd (k>6) (K (.tuple #[Sl none 0 0,.bool false]) h)
 (wpH P (aJ 164 (I 0) (I (g:Int))) (fun a8 a9=>∃ S T V,a8=Sl S T V/\∃ (i:LP) (j:LN),i [.slice S T V,I 0] a9/\
 ∀ c d e a b,i [.slice c d e,I a] b->Bd (a<(g:Int)) (∃ D,Ax M D a g <| ∃ (N:ByteArray) (l:OA) (m n:Nat),b.cell? (aC (D.add (a.toNat*2)) 0)=some (.string N)/\b.cell? (aC (D.add (a.toNat*2)) 1)=some (.slice l m n)/\aD P Gf #[I k,.agg #[.string N,Sl l m n]] b (fun b0 f=>∃ (o:Int) (p:Int) (q:Int) (r:Int) (s:Int) (t:Int) (u:Bool) (v:OA) (w x:Nat) (y:Bool) (z:OA) (A B:Nat) (O:Bool),b0= .tuple #[.agg #[I o,I p,I q,I r,I s,I t,.bool u,Sl v w x,.bool y,Sl z A B],.bool O]/\Br (!O) (K (.tuple #[Sl none 0 0,.bool false]) f)
 (Bd (a>0) (∃ W,Ax M W (B5 (a-1)) g <| ∃ X Z a0,Hd f (aC (W.add ((B5 (a-1)).toNat*2)) 1) X Z a0<|aD P Sc #[Sl X Z a0,Sl l m n] f (fun b1 C=>∃ a1,b1=I a1/\f.le C/\Bd (a1<=0) (K (.tuple #[Sl none 0 0,.bool false]) C)
 (wpH P (aF 164 1 #[(0,.agg #[I o,I p,I q,I r,I s,I t,.bool u,Sl v w x,.bool y,Sl z A B])]) (fun b2 b3=>∃ a2 a3 a4,b2=Sl a2 a3 a4/\wpH P (aG #[164,164] 164 #[Sl c d e,Sl a2 a3 a4]) (fun b4 Q=>∃ E F G,b4=Sl E F G/\i [.slice E F G,I (B5 (a+1))] Q/\j [.slice E F G,I (B5 (a+1))] Q<j [.slice c d e,I a] b) b3) C)))
 (wpH P (aF 164 1 #[(0,.agg #[I o,I p,I q,I r,I s,I t,.bool u,Sl v w x,.bool y,Sl z A B])]) (fun b5 b6=>∃ a5 a6 a7,b5=Sl a5 a6 a7/\wpH P (aG #[164,164] 164 #[Sl c d e,Sl a5 a6 a7]) (fun b7 R=>∃ H J L,b7=Sl H J L/\i [.slice H J L,I (B5 (a+1))] R/\j [.slice H J L,I (B5 (a+1))] R<j [.slice c d e,I a] b) b6) f))))
 (K (.tuple #[Sl c d e,.bool true]) b)) h))
def Jl a b c d(hvc:Fb prog a b c d h K):aD prog S1 #[.agg #[I a,Sl b c d]] h K:=
 fnk func198 { loops:=[(5,⟨[4,24],[],[N0,I 0],⟨([2,3,4,5,6,7,8]++Lrg 24 36),[6,7]⟩⟩)] } [1,6,7] [] hvc
def B62(P:aE)(o:Int)(f:OA)(a p:Nat)(h:aI)(K:VP):Prop:=
 Bd ((a:Int)>4096) (K (.tuple #[Sl none 0 0,.bool false]) h)
 (aD P S1 #[.agg #[I o,Sl f a p]] h (fun q b=>∃ (c:OA) (d e:Nat) (g:Bool),q= .tuple #[Sl c d e,.bool g]/\Br (!g) (K (.tuple #[Sl none 0 0,.bool false]) b)
 (Bd ((a:Int)>0) (∃ k,Ax f k (0:Int) a <| ∃ l m n,Hd b (aC (k.add (((0:Int)).toNat*2)) 1) l m n<|aD P Sb #[Sl l m n] b (fun r j=>∃ (i:Bool),r= .bool i/\Br (!i) (K (.tuple #[Sl none 0 0,.bool false]) j)
 (K (.tuple #[Sl c d e,.bool true]) j)))
 (K (.tuple #[Sl c d e,.bool true]) b))))
def B1i a b c d(hvc:B62 prog a b c d h K):aD prog A5h #[.agg #[I a,Sl b c d]] h K:=
 fnk func110 an0 [1] [] hvc
def B1h(P:aE)(b:Int)(c:OA)(d e:Nat)(h:aI)(K:VP):Prop:=
 aD P A5h #[.agg #[I b,Sl c d e]] h (fun j k=>∃ (f:OA) (g i:Nat) (a:Bool),j= .tuple #[Sl f g i,.bool a]/\K (.bool a) k)
def A7h a b c d(hvc:B1h prog a b c d h K):aD prog Rx #[.agg #[I a,Sl b c d]] h K:=
 fnk func65 an0 [1] [] hvc
def B1g(P:aE)(p:Int)(e:OA)(c e8:Nat)(h:aI)(K:VP):Prop:=
 Bd (p<0) (K (.tuple #[.agg #[I 0,Sl none 0 0],.bool false]) h)
 (Bd (p>6) (K (.tuple #[.agg #[I 0,Sl none 0 0],.bool false]) h)
 (∃ (s:LP) (t:LN),s [I 0,I 0,N0,I p,N0] h/\
 ∀ a C D E F f l m n o,s [I a,I C,.slice D E F,I f,.slice l m n] o->Bd (a<(c:Int)) (∃ a1,Ax e a1 a c <| ∃ (R:ByteArray),o.cell? (aC (a1.add (a.toNat*2)) 0)=some (.string R)/\aD P Nk #[.string R] o (fun d7 H=>∃ (u:Bool) (v:OA) (w x:Nat) (y:Bool) (z:OA) (A B:Nat) (S:Bool),d7= .tuple #[Qv u v w x y z A B,.bool S]/\Br (!S) (K (.tuple #[.agg #[I 0,Sl none 0 0],.bool false]) H)
 (aD P Qe #[Qv u v w x y z A B] H (fun d8 q=>∃ a2,d8=I a2/\H.le q/\Br (a2==0) (K (.tuple #[.agg #[I 0,Sl none 0 0],.bool false]) q)
 (∃ a3,Ax e a3 a c <| ∃ e4 T e5,Hd q (aC (a3.add (a.toNat*2)) 1) e4 T e5<|Br ((T:Int) != p) (K (.tuple #[.agg #[I 0,Sl none 0 0],.bool false]) q)
 (∃ (G:LP) (V:LN),G [I 0,I C,.slice D E F] q/\
 ∀ d g i j k b,G [I d,I g,.slice i j k] b->Bd (d<p) (∃ a4,Ax e a4 a c <| ∃ a5 a6 e6,Hd b (aC (a4.add (a.toNat*2)) 1) a5 a6 e6 <| ∃ a7,Ax a5 a7 d a6 <| ∃ a8,b.cell? (a7.add (d.toNat*1))=some (I a8)/\Bd (a8<0) (K (.tuple #[.agg #[I 0,Sl none 0 0],.bool false]) b)
 (∃ a9,Ax e a9 a c <| ∃ b0 b1 e7,Hd b (aC (a9.add (a.toNat*2)) 1) b0 b1 e7 <| ∃ b2,Ax b0 b2 d b1 <| ∃ b3,b.cell? (b2.add (d.toNat*1))=some (I b3)/\Bd (b3>1048576) (K (.tuple #[.agg #[I 0,Sl none 0 0],.bool false]) b)
 (G [I (B5 (d+1)),I g,.slice i j k] b/\V [I (B5 (d+1)),I g,.slice i j k] b<V [I d,I g,.slice i j k] b)))
 (Bd (a>0) (∃ b4,Ax e b4 (B5 (a-1)) c <| ∃ b5 b6 b7,Hd b (aC (b4.add ((B5 (a-1)).toNat*2)) 1) b5 b6 b7 <| ∃ b8,Ax e b8 a c <| ∃ b9 c0 c1,Hd b (aC (b8.add (a.toNat*2)) 1) b9 c0 c1<|aD P Yk #[Sl b5 b6 b7,Sl b9 c0 c1] b (fun d9 r=>∃ c2,d9=I c2/\b.le r/\Bd (c2<=0) (K (.tuple #[.agg #[I 0,Sl none 0 0],.bool false]) r)
 (∃ c3,Ax e c3 a c <| ∃ c4 c5 c6,Hd r (aC (c3.add (a.toNat*2)) 1) c4 c5 c6<|wpH P (aF 110 1 #[(0,.agg #[.bool u,Sl v w x,.bool y,Sl z A B,Sl c4 c5 c6])]) (fun e0 W=>∃ c7 c8 c9,e0=Sl c7 c8 c9/\r.le W/\wpH P (aG #[110,110] 110 #[Sl l m n,Sl c7 c8 c9]) (fun e1 X=>∃ J L M,e1=Sl J L M/\s [I (B5 (a+1)),I g,.slice i j k,I f,.slice J L M] X/\t [I (B5 (a+1)),I g,.slice i j k,I f,.slice J L M] X<t [I a,I C,.slice D E F,I f,.slice l m n] o) W) r)))
 (∃ d0,Ax e d0 a c <| ∃ d1 d2 d3,Hd b (aC (d0.add (a.toNat*2)) 1) d1 d2 d3<|wpH P (aF 110 1 #[(0,.agg #[.bool u,Sl v w x,.bool y,Sl z A B,Sl d1 d2 d3])]) (fun e2 Z=>∃ d4 d5 d6,e2=Sl d4 d5 d6/\b.le Z/\wpH P (aG #[110,110] 110 #[Sl l m n,Sl d4 d5 d6]) (fun e3 a0=>∃ N O Q,e3=Sl N O Q/\s [I (B5 (a+1)),I g,.slice i j k,I f,.slice N O Q] a0/\t [I (B5 (a+1)),I g,.slice i j k,I f,.slice N O Q] a0<t [I a,I C,.slice D E F,I f,.slice l m n] o) Z) b))))))))
 (K (.tuple #[.agg #[I f,Sl l m n],.bool true]) o)))
def A7g a b c d(hvc:B1g prog a b c d h K):aD prog Rw #[.agg #[I a,Sl b c d]] h K:=
 fnk func142 { loops:=[(5,⟨[5],[(2,2),(4,2)],[I 0,I 0,N0,I 0,N0],⟨([3,5,6,7,8]++Lrg 21 99),[2,4,6]⟩⟩),(11,⟨[8],[(2,2)],[I 0,I 0,N0],⟨([3,8]++Lrg 58 29),[2]⟩⟩)] } [1,2,4,6] [1000000000] hvc
def B61(P:aE)(o:Int)(p:OA)(f q:Nat)(h:aI)(K:VP):Prop:=
 Bd ((f:Int)>4096) (K (.tuple #[.agg #[I 0,Sl none 0 0],.bool false]) h)
 (aD P Rw #[.agg #[I o,Sl p f q]] h (fun r c=>∃ (d:Int) (b:OA) (a e:Nat) (g:Bool),r= .tuple #[.agg #[I d,Sl b a e],.bool g]/\Br (!g) (K (.tuple #[.agg #[I 0,Sl none 0 0],.bool false]) c)
 (Bd ((a:Int)>0) (∃ k,Ax b k (0:Int) a <| ∃ l m n,Hd c (aC (k.add (((0:Int)).toNat*5)) 4) l m n<|aD P Yj #[Sl l m n] c (fun s j=>∃ (i:Bool),s= .bool i/\Br (!i) (K (.tuple #[.agg #[I 0,Sl none 0 0],.bool false]) j)
 (K (.tuple #[.agg #[I d,Sl b a e],.bool true]) j)))
 (K (.tuple #[.agg #[I d,Sl b a e],.bool true]) c))))
def B1f a b c d(hvc:B61 prog a b c d h K):aD prog Yi #[.agg #[I a,Sl b c d]] h K:=
 fnk func72 an0 [1,2,4] [1000000000] hvc
def Wp(P:aE)(l:OA)(f n:Nat)(h:aI)(K:VP):Prop:=
 ∃ (c:LP) (g:LN),c [I 0] h/\
 ∀ a b,c [I a] b->Bd (a<(f:Int)) (∃ e,Ax l e a f <| ∃ (i j:ByteArray),b.cell? (aC (e.add (a.toNat*2)) 0)=some (.string i)/\b.cell? (aC (e.add (a.toNat*2)) 1)=some (.string j)/\aD P X6 #[.agg #[.string i,.string j]] b (fun m d=>∃ (k:Bool),m= .bool k/\Br (!k) (K (.bool false) d)
 (c [I (B5 (a+1))] d/\g [I (B5 (a+1))] d<g [I a] b)))
 (K (.bool true) b)
def Zo a b c(hvc:Wp prog a b c h K):aD prog Bw #[Sl a b c] h K:=
 fnk func66 { loops:=[(2,⟨[7],[],[I 0],⟨([2,4]++Lrg 7 8),[4]⟩⟩)] } [4] [] hvc
def Ws(P:aE)(u:Int)(v:OA)(p M:Nat)(N:OA)(j c7:Nat)(h:aI)(K:VP):Prop:=
 aD P Rx #[.agg #[I u,Sl v p M]] h (fun c9 a9=>∃ (O:Bool),c9= .bool O/\Br (!O) (K (.tuple #[.agg #[.string ({ data:=#[] }:ByteArray),.string ({ data:=#[] }:ByteArray)],I 1]) a9)
 (aD P Bw #[Sl N j c7] a9 (fun d0 E=>∃ (Q:Bool),d0= .bool Q/\Br (!Q) (K (.tuple #[.agg #[.string ({ data:=#[] }:ByteArray),.string ({ data:=#[] }:ByteArray)],I 1]) E)
 (Br ((j:Int) != u) (K (.tuple #[.agg #[.string ({ data:=#[] }:ByteArray),.string ({ data:=#[] }:ByteArray)],I 4]) E)
 (wpH P (aJ 105 (I (j:Int)) (I (j:Int))) (fun d1 d2=>∃ m n e4,d1=Sl m n e4/\∃ (w:LP) (R:LN),w [I 0] d2/\
 ∀ a k,w [I a] k->Bd (a<(j:Int)) (∃ G,Ax N G a j <| ∃ (S T:ByteArray),k.cell? (aC (G.add (a.toNat*2)) 0)=some (.string S)/\k.cell? (aC (G.add (a.toNat*2)) 1)=some (.string T)/\aD P Bg #[.agg #[I u,Sl v p M],I a] k (fun d3 d4=>∃ H,d3=I H/\wpH P (aJ 25 (I (B5 (H+1))) (I (B5 (H+1)))) (fun d5 d6=>∃ b4 b5 b6,d5=Sl b4 b5 b6/\∃ b7,Ax m b7 a n<|wpH P (aH 25 (Pt (b7.add (a.toNat*1))) (.slice b4 b5 b6)) (fun _ b0=>∃ b8,Ax m b8 a n <| ∃ e5 W e6,Hd b0 (b8.add (a.toNat*1)) e5 W e6 <| ∃ (x:LP) (V:LN),x [I 0] b0/\
 ∀ d f,x [I d] f->Bd (d<(W:Int)) (∃ b9,Ax m b9 a n <| ∃ c0 c1 e7,Hd f (b9.add (a.toNat*1)) c0 c1 e7<|aD P Qf #[.agg #[.string S,.string T],I d] f (fun d7 b1=>∃ (X Z:ByteArray),d7= .agg #[.string X,.string Z]/\f.le b1/\∃ c2,Ax c0 c2 d c1<|wpH P (aH 30 (Pt (c2.add (d.toNat*2))) (.agg #[.string X,.string Z])) (fun _ b2=>x [I (B5 (d+1))] b2/\V [I (B5 (d+1))] b2<V [I d] f) b1))
 (w [I (B5 (a+1))] f/\R [I (B5 (a+1))] f<R [I a] k)) d6) d4))
 (aD P Lb #[.string ({ data:=#[48] }:ByteArray)] k (fun d8 d9=>∃ (a0 a1:ByteArray),d8= .agg #[.string a0,.string a1]/\∃ (y:LP) (a2:LN),y [I 0,.string a0,.string a1] d9/\
 ∀ e s t l,y [I e,.string s,.string t] l->Bd (e<(p:Int)) (∃ J,Ax v J e p <| ∃ (a3:ByteArray) (a4:OA) (z c8:Nat),l.cell? (aC (J.add (e.toNat*2)) 0)=some (.string a3)/\l.cell? (aC (J.add (e.toNat*2)) 1)=some (.slice a4 z c8)/\aD P Lb #[.string a3] l (fun e0 e1=>∃ (a5 a6:ByteArray),e0= .agg #[.string a5,.string a6]/\∃ (q:LP) (r:LN),q [I 0,.string a5,.string a6] e1/\
 ∀ b g i c,q [I b,.string g,.string i] c->Bd (b<(z:Int)) (∃ c3,Ax a4 c3 b z <| ∃ o,c.cell? (c3.add (b.toNat*1))=some (I o)/\Bd (o>0) (∃ c4,Ax m c4 b n <| ∃ c5 c6 e8,Hd c (c4.add (b.toNat*1)) c5 c6 e8 <| ∃ L,Ax c5 L o c6 <| ∃ (a7 a8:ByteArray),c.cell? (aC (L.add (o.toNat*2)) 0)=some (.string a7)/\c.cell? (aC (L.add (o.toNat*2)) 1)=some (.string a8)/\aD P Qg #[.agg #[.string g,.string i],.agg #[.string a7,.string a8]] c (fun e2 F=>∃ (A B:ByteArray),e2= .agg #[.string A,.string B]/\c.le F/\q [I (B5 (b+1)),.string A,.string B] F/\r [I (B5 (b+1)),.string A,.string B] F<r [I b,.string g,.string i] c))
 (q [I (B5 (b+1)),.string g,.string i] c/\r [I (B5 (b+1)),.string g,.string i] c<r [I b,.string g,.string i] c))
 (aD P Yq #[.agg #[.string s,.string t],.agg #[.string g,.string i]] c (fun e3 b3=>∃ (C D:ByteArray),e3= .agg #[.string C,.string D]/\y [I (B5 (e+1)),.string C,.string D] b3/\a2 [I (B5 (e+1)),.string C,.string D] b3<a2 [I e,.string s,.string t] l))))
 (K (.tuple #[.agg #[.string s,.string t],I 0]) l)))) E)))))
def Zr a b c d e f g(hvc:Ws prog a b c d e f g h K):aD prog Gk #[.agg #[I a,Sl b c d],.slice e f g] h K:=
 fnk func14 { loops:=[(7,⟨[36],[],[I 0],⟨([7,8,9]++Lrg 36 32),[8]⟩⟩),(11,⟨[54],[],[I 0],⟨([9]++Lrg 54 13),[]⟩⟩),(18,⟨[72],[(10,2)],[I 0,.string ⟨#[]⟩,.string ⟨#[]⟩],⟨([12,13,14,15]++Lrg 72 31),[10,12,13]⟩⟩),(22,⟨[82],[(13,2)],[I 0,.string ⟨#[]⟩,.string ⟨#[]⟩],⟨([14,15]++Lrg 82 17),[13]⟩⟩)] } [2,4,8,10,12,13] [] hvc
def Me(P:aE)(q:Int)(n:OA)(g r:Nat)(i:Int)(h:aI)(K:VP):Prop:=
 ∃ (e:LP) (j:LN),e [I 0,I 0] h/\
 ∀ c a b,e [I c,I a] b->Bd (a<(g:Int)) (∃ f,Ax n f a g <| ∃ (o:ByteArray) (k:OA) (l p:Nat),b.cell? (aC (f.add (a.toNat*2)) 0)=some (.string o)/\b.cell? (aC (f.add (a.toNat*2)) 1)=some (.slice k l p)/\∃ m,Ax k m i l <| ∃ d,b.cell? (m.add (i.toNat*1))=some (I d)/\e [I (if d>c then d else c),I (B5 (a+1))] b/\j [I (if d>c then d else c),I (B5 (a+1))] b<j [I c,I a] b)
 (K (I c) b)
def Pv a b c d e(hvc:Me prog a b c d e h K):aD prog Bg #[.agg #[I a,Sl b c d],I e] h K:=
 fnk func67 { loops:=[(3,⟨[5,11],[],[I 0,I 0],⟨([5,7]++Lrg 11 12),[7]⟩⟩)] } [2,7] [] hvc
def B22(P:aE)(d:OA)(c f:Nat)(a:Int)(e:ByteArray)(h:aI)(K:VP):Prop:=
 aD P Bw #[Sl d c f] h (fun x r=>∃ (m:Bool),x= .bool m/\Br (!m) (K (.tuple #[Sl none 0 0,Sl none 0 0,I 1]) r)
 (aD P Ed #[.string e] r (fun y b=>∃ (n:Bool),y= .bool n/\Br (!n) (K (.tuple #[Sl none 0 0,Sl none 0 0,I 1]) b)
 (Bd (a<0) (K (.tuple #[Sl none 0 0,Sl none 0 0,I 3]) b)
 (Bd (a>=(c:Int)) (K (.tuple #[Sl none 0 0,Sl none 0 0,I 3]) b)
 (∃ g,Ax d g a c <| ∃ (o p:ByteArray),b.cell? (aC (g.add (a.toNat*2)) 0)=some (.string o)/\b.cell? (aC (g.add (a.toNat*2)) 1)=some (.string p)/\aD P Gm #[.agg #[.string o,.string p],.string e] b (fun z s=>∃ (q:Bool),z= .bool q/\Br (!q) (K (.tuple #[Sl none 0 0,Sl none 0 0,I 3]) s)
 (aD P Lc #[Sl d c f] s (fun A B=>∃ i j t,A=Sl i j t/\aD P Lc #[Sl d c f] B (fun C D=>∃ k l u,C=Sl k l u/\∃ v,Ax i v a j<|wpH P (aH 9 (Pt (aC (v.add (a.toNat*2)) 1)) (.string e)) (fun _ E=>∃ w,Ax k w a l<|wpH P (aH 9 (Pt (aC (w.add (a.toNat*2)) 0)) (.string e)) (fun _ F=>K (.tuple #[Sl i j t,Sl k l u,I 0]) F) E) D))))))))))
def A7u a b c d e(hvc:B22 prog a b c d e h K):aD prog La #[Sl a b c,I d,.string e] h K:=
 fnk func16 an0 [] [] hvc
def A29(P:aE)(N:OA)(l T:Nat)(h:aI)(K:VP):Prop:=
 ∃ (f:LP) (m:LN),f [N0,I 0] h/\
 ∀ c d e a b,f [.slice c d e,I a] b->Bd (a<(l:Int)) (∃ g,Ax N g a l <| ∃ (n o:ByteArray),b.cell? (aC (g.add (a.toNat*2)) 0)=some (.string n)/\b.cell? (aC (g.add (a.toNat*2)) 1)=some (.string o)/\aD P Yf #[.agg #[.string n,.string o]] b (fun O G=>∃ (p:Bool) (q:OA) (r s:Nat) (t:Bool) (u:OA) (v w:Nat) (x:Bool) (y:OA) (z A:Nat) (B:Bool) (C:OA) (D E:Nat) (F:Bool),O= .tuple #[.agg #[.bool p,Sl q r s,.bool t,Sl u v w,.bool x,Sl y z A,.bool B,Sl C D E],.bool F]/\Br (!F) (K (.tuple #[Sl none 0 0,.bool false]) G)
 (wpH P (aF 115 1 #[(0,.agg #[.bool p,Sl q r s,.bool t,Sl u v w,.bool x,Sl y z A,.bool B,Sl C D E])]) (fun Q R=>∃ J L M,Q=Sl J L M/\wpH P (aG #[115,115] 115 #[Sl c d e,Sl J L M]) (fun S H=>∃ i j k,S=Sl i j k/\f [.slice i j k,I (B5 (a+1))] H/\m [.slice i j k,I (B5 (a+1))] H<m [.slice c d e,I a] b) R) G)))
 (K (.tuple #[Sl c d e,.bool true]) b)
def A28 a b c(hvc:A29 prog a b c h K):aD prog Ee #[Sl a b c] h K:=
 fnk func73 { loops:=[(3,⟨[4,5],[],[N0,I 0],⟨(Lrg 2 26),[6]⟩⟩)] } [6] [1000000000] hvc
def B17(P:aE)(i7:Int)(Q:OA)(f j4:Nat)(i8:OA)(i9 j5:Nat)(h:aI)(K:VP):Prop:=
 ∃ (R:LP) (c9:LN),R [I 0,.bool false,N0,.bool false,N0,.bool false,N0,.bool false,N0] h/\
 ∀ c g i j k l m n o p q r s t u v w e,R [I c,.bool g,.slice i j k,.bool l,.slice m n o,.bool p,.slice q r s,.bool t,.slice u v w] e->Bd (c<(f:Int)) (∃ g4,Ax Q g4 c f <| ∃ g5 g6 g7 g8 g9 h0 h1 h2,Lq e (aC (g4.add (c.toNat*5)) 0) g5 g6 g7 g8 g9 h0 h1 h2 <| ∃ h3,Ax Q h3 c f <| ∃ h4 h5 h6 h7 h8 h9 i0 i1,Lq e (aC (h3.add (c.toNat*5)) 0) h4 h5 h6 h7 h8 h9 i0 i1 <| ∃ (S:LP) (d0:LN),S [I 0,.bool g5,.slice g6 g7 g8,.bool g9,.slice h0 h1 h2,.bool h4,.slice h5 h6 h7,.bool h8,.slice h9 i0 i1] e/\
 ∀ a x y z A B C D E F G H J L M N O b,S [I a,.bool x,.slice y z A,.bool B,.slice C D E,.bool F,.slice G H J,.bool L,.slice M N O] b->Bd (a<i7) (∃ d,Ax i8 d a i9 <| ∃ (d1:Bool) (d2:OA) (d3 d4:Nat) (d5:Bool) (d6:OA) (d7 d8:Nat) (d9:Bool) (e0:OA) (e1 e2:Nat) (e3:Bool) (e4:OA) (e5 e6:Nat),b.cell? (aC (d.add (a.toNat*8)) 0)=some (.bool d1)/\b.cell? (aC (d.add (a.toNat*8)) 1)=some (.slice d2 d3 d4)/\b.cell? (aC (d.add (a.toNat*8)) 2)=some (.bool d5)/\b.cell? (aC (d.add (a.toNat*8)) 3)=some (.slice d6 d7 d8)/\b.cell? (aC (d.add (a.toNat*8)) 4)=some (.bool d9)/\b.cell? (aC (d.add (a.toNat*8)) 5)=some (.slice e0 e1 e2)/\b.cell? (aC (d.add (a.toNat*8)) 6)=some (.bool e3)/\b.cell? (aC (d.add (a.toNat*8)) 7)=some (.slice e4 e5 e6)/\∃ i2,Ax Q i2 c f <| ∃ i3 i4 j3,Hd b (aC (i2.add (c.toNat*5)) 4) i3 i4 j3 <| ∃ i5,Ax i3 i5 a i4 <| ∃ i6,b.cell? (i5.add (a.toNat*1))=some (I i6)/\aD P Rv #[.agg #[.bool d1,Sl d2 d3 d4,.bool d5,Sl d6 d7 d8,.bool d9,Sl e0 e1 e2,.bool e3,Sl e4 e5 e6],I i6] b (fun j0 c7=>∃ (e7:Bool) (e8:OA) (e9 f0:Nat) (f1:Bool) (f2:OA) (f3 f4:Nat) (f5:Bool) (f6:OA) (f7 f8:Nat) (f9:Bool) (g0:OA) (g1 g2:Nat),j0= .agg #[.bool e7,Sl e8 e9 f0,.bool f1,Sl f2 f3 f4,.bool f5,Sl f6 f7 f8,.bool f9,Sl g0 g1 g2]/\b.le c7/\aD P Rt #[.agg #[.bool x,Sl y z A,.bool B,Sl C D E,.bool F,Sl G H J,.bool L,Sl M N O],.agg #[.bool e7,Sl e8 e9 f0,.bool f1,Sl f2 f3 f4,.bool f5,Sl f6 f7 f8,.bool f9,Sl g0 g1 g2]] c7 (fun j1 c8=>∃ (T:Bool) (V:OA) (W X:Nat) (Z:Bool) (a0:OA) (a1 a2:Nat) (a3:Bool) (a4:OA) (a5 a6:Nat) (a7:Bool) (a8:OA) (a9 b0:Nat),j1= .agg #[.bool T,Sl V W X,.bool Z,Sl a0 a1 a2,.bool a3,Sl a4 a5 a6,.bool a7,Sl a8 a9 b0]/\c7.le c8/\S [I (B5 (a+1)),.bool T,.slice V W X,.bool Z,.slice a0 a1 a2,.bool a3,.slice a4 a5 a6,.bool a7,.slice a8 a9 b0] c8/\d0 [I (B5 (a+1)),.bool T,.slice V W X,.bool Z,.slice a0 a1 a2,.bool a3,.slice a4 a5 a6,.bool a7,.slice a8 a9 b0] c8<d0 [I a,.bool x,.slice y z A,.bool B,.slice C D E,.bool F,.slice G H J,.bool L,.slice M N O] b)))
 (aD P Yg #[.agg #[.bool g,Sl i j k,.bool l,Sl m n o,.bool p,Sl q r s,.bool t,Sl u v w],.agg #[.bool x,Sl y z A,.bool B,Sl C D E,.bool F,Sl G H J,.bool L,Sl M N O]] b (fun j2 g3=>∃ (b1:Bool) (b2:OA) (b3 b4:Nat) (b5:Bool) (b6:OA) (b7 b8:Nat) (b9:Bool) (c0:OA) (c1 c2:Nat) (c3:Bool) (c4:OA) (c5 c6:Nat),j2= .agg #[.bool b1,Sl b2 b3 b4,.bool b5,Sl b6 b7 b8,.bool b9,Sl c0 c1 c2,.bool c3,Sl c4 c5 c6]/\R [I (B5 (c+1)),.bool b1,.slice b2 b3 b4,.bool b5,.slice b6 b7 b8,.bool b9,.slice c0 c1 c2,.bool c3,.slice c4 c5 c6] g3/\c9 [I (B5 (c+1)),.bool b1,.slice b2 b3 b4,.bool b5,.slice b6 b7 b8,.bool b9,.slice c0 c1 c2,.bool c3,.slice c4 c5 c6] g3<c9 [I c,.bool g,.slice i j k,.bool l,.slice m n o,.bool p,.slice q r s,.bool t,.slice u v w] e)))
 (K (.agg #[.bool g,Sl i j k,.bool l,Sl m n o,.bool p,Sl q r s,.bool t,Sl u v w]) e)
def A7c a b c d e f g(hvc:B17 prog a b c d e f g h K):aD prog Ru #[.agg #[I a,Sl b c d],.slice e f g] h K:=
 fnk func75 { loops:=[(3,⟨[6],[(5,8)],[I 0,.bool false,N0,.bool false,N0,.bool false,N0,.bool false,N0],⟨([6,7,8]++Lrg 10 45),[5,7]⟩⟩),(7,⟨[8],[(7,8)],[I 0,.bool false,N0,.bool false,N0,.bool false,N0,.bool false,N0],⟨([8]++Lrg 30 22),[7]⟩⟩)] } [2,4,5,7] [1000000000] hvc
def Wc(P:aE)(D:Int)(E:OA)(F G:Nat)(H:OA)(J L:Nat)(h:aI)(K:VP):Prop:=
 aD P Yi #[.agg #[I D,Sl E F G]] h (fun M N=>∃ (b:Int) (d:OA) (e f:Nat) (g:Bool),M= .tuple #[.agg #[I b,Sl d e f],.bool g]/\aD P Ee #[Sl H J L] N (fun O a=>∃ (i:OA) (c j:Nat) (k:Bool),O= .tuple #[Sl i c j,.bool k]/\Br (!g) (K (.tuple #[.agg #[.string ({ data:=#[] }:ByteArray),.string ({ data:=#[] }:ByteArray)],I 1]) a)
 (Br (!k) (K (.tuple #[.agg #[.string ({ data:=#[] }:ByteArray),.string ({ data:=#[] }:ByteArray)],I 1]) a)
 (Br ((c:Int) != b) (K (.tuple #[.agg #[.string ({ data:=#[] }:ByteArray),.string ({ data:=#[] }:ByteArray)],I 4]) a)
 (aD P Ru #[.agg #[I b,Sl d e f],.slice i c j] a (fun Q R=>∃ (l:Bool) (m:OA) (n o:Nat) (p:Bool) (q:OA) (r s:Nat) (t:Bool) (u:OA) (v w:Nat) (x:Bool) (y:OA) (z A:Nat),Q= .agg #[.bool l,Sl m n o,.bool p,Sl q r s,.bool t,Sl u v w,.bool x,Sl y z A]/\aD P Rs #[.agg #[.bool l,Sl m n o,.bool p,Sl q r s,.bool t,Sl u v w,.bool x,Sl y z A]] R (fun S T=>∃ (B C:ByteArray),S= .agg #[.string B,.string C]/\K (.tuple #[.agg #[.string B,.string C],I 0]) T)))))))
def Zf a b c d e f g(hvc:Wc prog a b c d e f g h K):aD prog X3 #[.agg #[I a,Sl b c d],.slice e f g] h K:=
 fnk func15 an0 [2,4,6] [1000000000] hvc
def B14(P:aE)(d:OA)(e f:Nat)(a:Int)(g:ByteArray)(h:aI)(K:VP):Prop:=
 aD P Ee #[Sl d e f] h (fun a6 a7=>∃ (o:OA) (i a5:Nat) (p:Bool),a6= .tuple #[Sl o i a5,.bool p]/\aD P Nk #[.string g] a7 (fun a8 b=>∃ (q:Bool) (r:OA) (s t:Nat) (u:Bool) (v:OA) (w x:Nat) (y:Bool),a8= .tuple #[Qv q r s t u v w x,.bool y]/\Br (!p) (K (.tuple #[Sl none 0 0,Sl none 0 0,I 1]) b)
 (Br (!y) (K (.tuple #[Sl none 0 0,Sl none 0 0,I 1]) b)
 (Bd (a<0) (K (.tuple #[Sl none 0 0,Sl none 0 0,I 3]) b)
 (Bd (a>=(i:Int)) (K (.tuple #[Sl none 0 0,Sl none 0 0,I 3]) b)
 (∃ c,Ax o c a i <| ∃ (z:Bool) (A:OA) (B C:Nat) (D:Bool) (E:OA) (F G:Nat) (H:Bool) (J:OA) (L M:Nat) (N:Bool) (O:OA) (Q R:Nat),b.cell? (aC (c.add (a.toNat*8)) 0)=some (.bool z)/\b.cell? (aC (c.add (a.toNat*8)) 1)=some (.slice A B C)/\b.cell? (aC (c.add (a.toNat*8)) 2)=some (.bool D)/\b.cell? (aC (c.add (a.toNat*8)) 3)=some (.slice E F G)/\b.cell? (aC (c.add (a.toNat*8)) 4)=some (.bool H)/\b.cell? (aC (c.add (a.toNat*8)) 5)=some (.slice J L M)/\b.cell? (aC (c.add (a.toNat*8)) 6)=some (.bool N)/\b.cell? (aC (c.add (a.toNat*8)) 7)=some (.slice O Q R)/\aD P Yh #[.agg #[.bool z,Sl A B C,.bool D,Sl E F G,.bool H,Sl J L M,.bool N,Sl O Q R],Qv q r s t u v w x] b (fun a9 j=>∃ (S:Bool),a9= .bool S/\b.le j/\Br (!S) (K (.tuple #[Sl none 0 0,Sl none 0 0,I 3]) j)
 (wpH P (aF 25 0 #[]) (fun b0 b1=>∃ T V W,b0=Sl T V W/\wpH P (aG #[25,25] 25 #[Sl T V W,Sl d e f]) (fun b2 b3=>∃ k l X,b2=Sl k l X/\wpH P (aF 25 0 #[]) (fun b4 b5=>∃ Z a0 a1,b4=Sl Z a0 a1/\wpH P (aG #[25,25] 25 #[Sl Z a0 a1,Sl d e f]) (fun b6 b7=>∃ m n a2,b6=Sl m n a2/\∃ a3,Ax k a3 a l<|wpH P (aH 9 (Pt (aC (a3.add (a.toNat*2)) 1)) (.string g)) (fun _ b8=>∃ a4,Ax m a4 a n<|wpH P (aH 9 (Pt (aC (a4.add (a.toNat*2)) 0)) (.string g)) (fun _ b9=>K (.tuple #[Sl k l X,Sl m n a2,I 0]) b9) b8) b7) b5) b3) b1) j))))))))
def A7b a b c d e(hvc:B14 prog a b c d e h K):aD prog Ks #[Sl a b c,I d,.string e] h K:=
 fnk func17 an0 [11] [1000000000] hvc
def Tt(P:aE)(p:Int)(e:OA)(c q:Nat)(l:Int)(m:Int)(h:aI)(K:VP):Prop:=
 Bd ((c:Int)>l) (K (.bool false) h)
 (∃ (d:LP) (f:LN),d [I 0] h/\
 ∀ a b,d [I a] b->Bd (a<(c:Int)) (∃ j,Ax e j a c <| ∃ (g:ByteArray),b.cell? (aC (j.add (a.toNat*2)) 0)=some (.string g)/\Bd (((ByteArray.size g:Nat):Int)>m) (K (.bool false) b)
 (∃ k,Ax e k a c <| ∃ n i o,Hd b (aC (k.add (a.toNat*2)) 1) n i o<|Bd ((i:Int)>12) (K (.bool false) b)
 (d [I (B5 (a+1))] b/\f [I (B5 (a+1))] b<f [I a] b)))
 (K (.bool true) b))
def Uo a b c d e f(hvc:Tt prog a b c d e f h K):aD prog Ei #[.agg #[I a,Sl b c d],I e,I f] h K:=
 fnk func10 { loops:=[(4,⟨[7],[],[I 0],⟨([6,7]++Lrg 13 26),[]⟩⟩)] } [3] [] hvc
def C0m(P:aE)(s:Int)(i:OA)(e y:Nat)(t:Int)(u:Int)(h:aI)(K:VP):Prop:=
 Bd (s>t) (K (.bool false) h)
 (∃ (f:LP) (j:LN),f [I 0] h/\
 ∀ b d,f [I b] d->Bd (b<(e:Int)) (∃ (g:LP) (k:LN),g [I 0] d/\
 ∀ c a,g [I c] a->∃ m,Ax i m b e <| ∃ v l w,Hd a (aC (m.add (b.toNat*2)) 1) v l w<|Bd (c<(l:Int)) (∃ n,Ax i n b e <| ∃ o p x,Hd a (aC (n.add (b.toNat*2)) 1) o p x <| ∃ q,Ax o q c p <| ∃ r,a.cell? (q.add (c.toNat*1))=some (I r)/\Bd (r>u) (K (.bool false) a)
 (g [I (B5 (c+1))] a/\k [I (B5 (c+1))] a<k [I c] a))
 (f [I (B5 (b+1))] a/\j [I (B5 (b+1))] a<j [I b] d))
 (K (.bool true) d))
def B4v a b c d e f(hvc:C0m prog a b c d e f h K):aD prog A3w #[.agg #[I a,Sl b c d],I e,I f] h K:=
 fnk func11 { loops:=[(4,⟨[7],[],[I 0],⟨([6,7,8]++Lrg 13 29),[]⟩⟩),(7,⟨[8],[],[I 0],⟨([6,8]++Lrg 20 22),[]⟩⟩)] } [3] [] hvc
def Tu(P:aE)(n:OA)(c p:Nat)(o:OA)(g q:Nat)(h:aI)(K:VP):Prop:=
 Br ((c:Int) != (g:Int)) (K (.bool false) h)
 (∃ (d:LP) (i:LN),d [I 0] h/\
 ∀ a b,d [I a] b->Bd (a<(c:Int)) (∃ e,Ax n e a c <| ∃ (j k:ByteArray),b.cell? (aC (e.add (a.toNat*2)) 0)=some (.string j)/\b.cell? (aC (e.add (a.toNat*2)) 1)=some (.string k)/\∃ f,Ax o f a g <| ∃ (l m:ByteArray),b.cell? (aC (f.add (a.toNat*2)) 0)=some (.string l)/\b.cell? (aC (f.add (a.toNat*2)) 1)=some (.string m)/\Br (!((j.toList==l.toList)&&((k.toList==m.toList)&&true))) (K (.bool false) b)
 (d [I (B5 (a+1))] b/\i [I (B5 (a+1))] b<i [I a] b))
 (K (.bool true) b))
def Up a b c d e f(hvc:Tu prog a b c d e f h K):aD prog O3 #[Sl a b c,Sl d e f] h K:=
 fnk func18 { loops:=[(4,⟨[5],[],[I 0],⟨([4,5]++Lrg 11 15),[]⟩⟩)] } [] [] hvc
def B28(P:aE)(a:OA)(i j:Nat)(h:aI)(K:VP):Prop:=
 Br (Option.isNone a) (K (Sl none 0 0) h)
 (wpH P (aF 25 0 #[]) (fun k l=>∃ b c d,k=Sl b c d/\wpH P (aG #[25,25] 25 #[Sl b c d,Sl a i j]) (fun m n=>∃ e f g,m=Sl e f g/\K (Sl e f g) n) l) h)
def A7x a b c(hvc:B28 prog a b c h K):aD prog Lc #[Sl a b c] h K:=
 fnk func77 an0 [] [] hvc
def Md(P:aE)(d:Int)(e:OA)(f g:Nat)(b:OA)(a c:Nat)(n:Int)(i:ByteArray)(h:aI)(K:VP):Prop:=
 aD P Ei #[.agg #[I d,Sl e f g],I 5,I 8] h (fun a0 X=>∃ (o:Bool),a0= .bool o/\Br (!o) (aD P V6 #[] X (fun a1 a2=>∃ (p:Bool),a1= .bool p/\K (.bool p) a2))
 (aD P A3w #[.agg #[I d,Sl e f g],I 6,I 6] X (fun a3 j=>∃ (q:Bool),a3= .bool q/\Br (!q) (aD P V6 #[] j (fun a4 a5=>∃ (r:Bool),a4= .bool r/\K (.bool r) a5))
 (Bd ((a:Int)>8) (aD P V6 #[] j (fun a6 a7=>∃ (s:Bool),a6= .bool s/\K (.bool s) a7))
 (aD P Yn #[Sl b a c] j (fun a8 k=>∃ (t:Bool),a8= .bool t/\Br (!t) (aD P V6 #[] k (fun a9 b0=>∃ (u:Bool),a9= .bool u/\K (.bool u) b0))
 (Bd (((ByteArray.size i:Nat):Int)>12) (aD P V6 #[] k (fun b1 b2=>∃ (v:Bool),b1= .bool v/\K (.bool v) b2))
 (aD P Gk #[.agg #[I d,Sl e f g],.slice b a c] k (fun b3 b4=>∃ (w x:ByteArray) (y:Int),b3= .tuple #[.agg #[.string w,.string x],I y]/\aD P X3 #[.agg #[I d,Sl e f g],.slice b a c] b4 (fun b5 b6=>∃ (z A:ByteArray) (B:Int),b5= .tuple #[.agg #[.string z,.string A],I B]/\aD P La #[Sl b a c,I n,.string i] b6 (fun b7 b8=>∃ (C:OA) (D E:Nat) (F:OA) (G H:Nat) (J:Int),b7= .tuple #[Sl C D E,Sl F G H,I J]/\aD P Ks #[Sl b a c,I n,.string i] b8 (fun b9 l=>∃ (L:OA) (M N:Nat) (O:OA) (Q R:Nat) (S:Int),b9= .tuple #[Sl L M N,Sl O Q R,I S]/\Br ((w.toList==z.toList)&&((x.toList==A.toList)&&true)) (Br (y==B) (aD P O3 #[Sl C D E,Sl L M N] l (fun c0 Z=>∃ (T:Bool),c0= .bool T/\Br T (aD P O3 #[Sl F G H,Sl O Q R] Z (fun c1 m=>∃ (V:Bool),c1= .bool V/\Br V (Br (J==S) (aD P V6 #[] m (fun c2 c3=>∃ (W:Bool),c2= .bool W/\K (.bool W) c3))
 (K (.bool false) m))
 (K (.bool false) m)))
 (K (.bool false) Z)))
 (K (.bool false) l))
 (K (.bool false) l)))))))))))))
def Pu a b c d e f g i j(hvc:Md prog a b c d e f g i j h K):aD prog Gi #[.agg #[I a,Sl b c d],.slice e f g,I i,.string j] h K:=
 fnk func3 an0 [4,9,11] [] hvc
