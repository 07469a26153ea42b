/- A part. -/
import Derived.Test.YtmbfcbbkbefgfaaGreatDoorG13
import Derived.Test.YtmbfcbbkbefgfaaGreatDoorG10
import Derived.Test.YtmbfcbbkbefgfaaGreatDoorG26
import Derived.Test.YtmbfcbbkbefgfaaGreatDoorG09
open Go.Proofs.Tryz
set_option linter.all false
open _root_.Go.Addr renaming add->aJ
open _root_.Go.Builtin renaming append_->aC
open _root_.Go.Instr renaming buildSlice->aD,storeAt->aF,makeSlice->aH,alloc->aK
open _root_.Go renaming Program->aG
open _root_.Go.Proofs.YtmbfcbbkbefgfaaGreatDoor renaming FCall->aE,Heap->aI
namespace Go.Proofs.YtmbfcbbkbefgfaaGreatDoor
open Go
set_option maxRecDepth 100000
variable {h:aI} {K:VP}
abbrev Es:Nat:=100
abbrev Er:Nat:=87
abbrev J6:Nat:=235
abbrev Ij:Nat:=201
abbrev Tq:Nat:=211
abbrev Gj:Nat:=233
abbrev Qt:Nat:=156
abbrev A1e:Nat:=175
abbrev Il:Nat:=120
abbrev C68:Nat:=98
abbrev C2u:Nat:=179
abbrev A8t:Nat:=97
abbrev Tt:Nat:=101
abbrev Dg:Nat:=182
abbrev Et:Nat:=176
abbrev C2t:Nat:=95
abbrev A1f:Nat:=124
abbrev Oo:Nat:=214
abbrev Gh:Nat:=213
abbrev V5:Nat:=177
abbrev Tr:Nat:=178
abbrev Gi:Nat:=163
abbrev Oq:Nat:=165
abbrev A6w:Nat:=237
abbrev A1i:Nat:=246
abbrev A1j:Nat:=172
abbrev Ot:Nat:=174
abbrev Ts:Nat:=234
abbrev Im:Nat:=276
abbrev A1g:Nat:=61
abbrev C5k:Nat:=84
abbrev Tv:Nat:=115
abbrev C5j:Nat:=162
abbrev A6v:Nat:=161
abbrev A6u:Nat:=83
abbrev Tu:Nat:=82
abbrev B3u:Nat:=59
abbrev A8v:Nat:=47
abbrev Qw:Nat:=132
abbrev C3m:Nat:=99
abbrev C5l:Nat:=57
abbrev Lp:Nat:=126
abbrev C4w:Nat:=31
abbrev B6c:Nat:=30
abbrev C2v:Nat:=80
abbrev C1e:Nat:=29
abbrev C69:Nat:=40
abbrev Ks:Nat:=265
abbrev Ud:Nat:=225
abbrev Pu:Nat:=135
abbrev C50:Nat:=41
abbrev C4z:Nat:=235
abbrev Fn:Nat:=70
abbrev I4:Nat:=3
def C32:SliceT prog Fn I4 (I 0) 1 8:=⟨by kernel_rfl,by kernel_rfl,rfl,by decide⟩
abbrev U3:Nat:=128
abbrev K4:Nat:=145
def B25:SliceT prog U3 K4 (Qv false none 0 0 false none 0 0) 4 64:=⟨by kernel_rfl,by kernel_rfl,rfl,by decide⟩
def Ti:prog.cellsOf K4=4/\(prog.info? K4).isSome=true:=⟨by kernel_rfl,by kernel_rfl⟩
abbrev Rq:Nat:=220
abbrev Fk:Nat:=138
def tZs:SliceT prog Rq Fk (Zv false none 0 0) 2 32:=⟨by kernel_rfl,by kernel_rfl,rfl,by decide⟩
def A05:prog.cellsOf Fk=2/\(prog.info? Fk).isSome=true:=⟨by kernel_rfl,by kernel_rfl⟩
abbrev Ku:Nat:=56
abbrev J5:Nat:=75
def C4u:SliceT prog Ku J5 (N0) 1 24:=⟨by kernel_rfl,by kernel_rfl,rfl,by decide⟩
def A06:prog.cellsOf J5=1/\(prog.info? J5).isSome=true:=⟨by kernel_rfl,by kernel_rfl⟩
abbrev My:Nat:=231
abbrev Yd:Nat:=235
def C54:SliceT prog My Yd (.agg #[Sl none 0 0,.bool false,Sl none 0 0]) 3 56:=⟨by kernel_rfl,by kernel_rfl,rfl,by decide⟩
abbrev B1o:Nat:=314
abbrev Fm:Nat:=38
def C31:SliceT prog B1o Fm (N0) 1 24:=⟨by kernel_rfl,by kernel_rfl,rfl,by decide⟩
def A9a(P:aG)(x:OA)(c B:Nat)(h:aI)(K:VP):Prop:=
 wpH P (aH 128 (I (c:Int)) (I (c:Int))) (fun y z=>∃ e f u,y=Sl e f u/\∃ (d:LP) (g:LN),d [I 0] z/\
 ∀ a b,d [I a] b->Bd (a<(c:Int)) (∃ v,Ax x v a c <| ∃ (i:ByteArray),b.cell? (v.add (a.toNat*1))=some (.string i)/\aE P A16 #[.string i] b (fun A s=>∃ (j:Bool) (k:OA) (l m:Nat) (n:Bool) (o:OA) (p q:Nat) (r:Bool),A= .tuple #[Qv j k l m n o p q,.bool r]/\Br (!r) (K (.tuple #[Sl none 0 0,.bool false]) s)
 (∃ w,Ax e w a f<|wpH P (aF 145 (Pt (w.add (a.toNat*4))) (Qv j k l m n o p q)) (fun _ t=>d [I (B4 (a+1))] t/\g [I (B4 (a+1))] t<g [I a] b) s)))
 (K (.tuple #[Sl e f u,.bool true]) b)) h
def A7e a b c(hvc:A9a prog a b c h K):aE prog Es #[Sl a b c] h K:=
 fnk func100 { loops:=[(3,⟨[14],[],[I 0],⟨([2,3,5,6,7,8]++Lrg 14 17),[7]⟩⟩)] } [7] [] hvc
def A98(P:aG)(v:OA)(c A:Nat)(h:aI)(K:VP):Prop:=
 wpH P (aH 38 (I (c:Int)) (I (c:Int))) (fun w x=>∃ e f k,w=Sl e f k/\∃ (d:LP) (g:LN),d [I 0] x/\
 ∀ a b,d [I a] b->Bd (a<(c:Int)) (∃ l,Ax v l a c <| ∃ m n o p q r s t,Lq b (l.add (a.toNat*4)) m n o p q r s t<|aE P V3 #[Qv m n o p q r s t] b (fun y z=>∃ (i:ByteArray),y= .string i/\∃ u,Ax e u a f<|wpH P (aF 9 (Pt (u.add (a.toNat*1))) (.string i)) (fun _ j=>d [I (B4 (a+1))] j/\g [I (B4 (a+1))] j<g [I a] b) z))
 (K (Sl e f k) b)) h
def A7c a b c(hvc:A98 prog a b c h K):aE prog Er #[Sl a b c] h K:=
 fnk func87 { loops:=[(3,⟨[11],[],[I 0],⟨([4,5]++Lrg 11 11),[5]⟩⟩)] } [5] [] hvc
def Dp(P:aG)(C:OA)(t O:Nat)(h:aI)(K:VP):Prop:=
 aE P Rx #[I 1] h (fun D E=>∃ x y z A,D=Zv x y z A/\∃ (i:LP) (g:LN),i [I 0,.bool x,.slice y z A] E/\
 ∀ a b c d e f,i [I a,.bool b,.slice c d e] f->Bd (a<(t:Int)) (∃ B,Ax C B a t <| ∃ J L M N j k l m,Lq f (B.add (a.toNat*4)) J L M N j k l m<|aE P E8 #[Zv j k l m] f (fun F n=>∃ (u:Bool),F= .bool u/\Br (!u) (aE P A0z #[Zv j k l m,Zv b c d e] n (fun G o=>∃ (v:Bool),G= .bool v/\Br (!v) (aE P B3p #[Zv b c d e,Zv j k l m] o (fun H w=>∃ p q r s,H=Zv p q r s/\i [I (B4 (a+1)),.bool p,.slice q r s] w/\g [I (B4 (a+1)),.bool p,.slice q r s] w<g [I a,.bool b,.slice c d e] f))
 (i [I (B4 (a+1)),.bool b,.slice c d e] o/\g [I (B4 (a+1)),.bool b,.slice c d e] o<g [I a,.bool b,.slice c d e] f)))
 (i [I (B4 (a+1)),.bool b,.slice c d e] n/\g [I (B4 (a+1)),.bool b,.slice c d e] n<g [I a,.bool b,.slice c d e] f)))
 (K (Zv b c d e) f))
def Jh a b c(hvc:Dp prog a b c h K):aE prog J6 #[Sl a b c] h K:=
 fnk func235 { loops:=[(3,⟨[9],[(3,2)],[I 0,.bool false,N0],⟨([5]++Lrg 9 20),[3,5]⟩⟩)] } [2,3,5] [] hvc
def B5b(P:aG)(c:Bool)(d:OA)(e f:Nat)(g:Bool)(i:OA)(j k:Nat)(l:Bool)(m:OA)(n o:Nat)(h:aI)(K:VP):Prop:=
 aE P E8 #[Zv g i j k] h (fun D a=>∃ (p:Bool),D= .bool p/\Br p (aE P Bh #[Zv c d e f,Zv l m n o] a (fun E F=>∃ r s t u,E=Zv r s t u/\K (Zv r s t u) F))
 (aE P Ep #[Zv l m n o,Zv g i j k] a (fun G b=>∃ v w x y,G=Zv v w x y/\a.le b/\aE P Bh #[Zv c d e f,Zv v w x y] b (fun H q=>∃ z A B C,H=Zv z A B C/\b.le q/\K (Zv z A B C) q))))
def B0x a b c d e f g i j k l m(hvc:B5b prog a b c d e f g i j k l m h K):aE prog Ij #[Qv a b c d e f g i,Zv j k l m] h K:=
 fnk func201 an0 [2,3,4] [] hvc
def C04(P:aG)(n:Int)(o:Int)(f:OA)(c p:Nat)(h:aI)(K:VP):Prop:=
 aE P Gj #[Mv n o f c p] h (fun q l=>∃ (g:Bool),q= .bool g/\Br (!g) (K (.bool false) l)
 (∃ (d:LP) (i:LN),d [I 0] l/\
 ∀ a b,d [I a] b->Bd (a<(c:Int)) (∃ m,Ax f m a c <| ∃ (j:ByteArray),b.cell? (m.add (a.toNat*1))=some (.string j)/\aE P Dd #[.string j] b (fun r e=>∃ (k:Bool),r= .bool k/\Br (!k) (K (.bool false) e)
 (d [I (B4 (a+1))] e/\i [I (B4 (a+1))] e<i [I a] b)))
 (K (.bool true) b)))
def B5t a b c d e(hvc:C04 prog a b c d e h K):aE prog Tq #[Mv a b c d e] h K:=
 fnk func211 { loops:=[(4,⟨[11],[],[I 0],⟨([2,4]++Lrg 11 8),[]⟩⟩)] } [1] [] hvc
def A5a(P:aG)(a:Int)(b:Int)(d:OA)(c e:Nat)(h:aI)(K:VP):Prop:=
 Bd ((1:Int)<=a) (Bd (a<=64) (Bd ((1:Int)<=b) (Bd (b<=64) (K (.bool ((c:Int)==(B4 (a*b)))) h)
 (K (.bool false) h))
 (K (.bool false) h))
 (K (.bool false) h))
 (K (.bool false) h)
def A59 a b c d e(hvc:A5a prog a b c d e h K):aE prog Gj #[Mv a b c d e] h K:=
 fnk func233 an0 [1] [] hvc
def C4n(P:aG)(k:Int)(l:Int)(a:OA)(b c:Nat)(h:aI)(K:VP):Prop:=
 aE P Gj #[Mv k l a b c] h (fun m j=>∃ (d:Bool),m= .bool d/\Br (!d) (K (.tuple #[Sl none 0 0,.bool false]) j)
 (aE P Es #[Sl a b c] j (fun n o=>∃ (e:OA) (f g:Nat) (i:Bool),n= .tuple #[Sl e f g,.bool i]/\K (.tuple #[Sl e f g,.bool i]) o)))
def B8q a b c d e(hvc:C4n prog a b c d e h K):aE prog Qt #[Mv a b c d e] h K:=
 fnk func156 an0 [1] [] hvc
def C03(P:aG)(d:Int)(e:Int)(f:OA)(g i:Nat)(h:aI)(K:VP):Prop:=
 aE P Er #[Sl f g i] h (fun j k=>∃ a b c,j=Sl a b c/\K (Mv d e a b c) k)
def B5s a b c d e(hvc:C03 prog a b c d e h K):aE prog A1e #[I a,I b,Sl c d e] h K:=
 fnk func175 an0 [6] [] hvc
def Zs(P:aG)(a:Int)(b:Int)(d:OA)(e f:Nat)(h:aI)(K:VP):Prop:=
 aE P Tq #[Mv a b d e f] h (fun m c=>∃ (g:Bool),m= .bool g/\Br (!g) (K (.tuple #[Mv (0:Int) (0:Int) none 0 0,I 1]) c)
 (aE P Gh #[Sl d e f,I a,I b] c (fun n i=>∃ j k l,n=Sl j k l/\c.le i/\K (.tuple #[Mv b a j k l,I 0]) i)))
def A29 a b c d e(hvc:Zs prog a b c d e h K):aE prog Il #[Mv a b c d e] h K:=
 fnk func120 an0 [1,2] [] hvc
def C70(P:aG)(q:Int)(c:Int)(c9:OA)(d0 d1:Nat)(j:Int)(k:Int)(d2:OA)(d3 d4:Nat)(h:aI)(K:VP):Prop:=
 aE P Qt #[Mv q c c9 d0 d1] h (fun d5 d6=>∃ (z:OA) (A B:Nat) (C:Bool),d5= .tuple #[Sl z A B,.bool C]/\aE P Qt #[Mv j k d2 d3 d4] d6 (fun d7 l=>∃ (D:OA) (E F:Nat) (G:Bool),d7= .tuple #[Sl D E F,.bool G]/\Br (!C) (K (.tuple #[Mv (0:Int) (0:Int) none 0 0,I 1]) l)
 (Br (!G) (K (.tuple #[Mv (0:Int) (0:Int) none 0 0,I 1]) l)
 (Br (c != j) (K (.tuple #[Mv (0:Int) (0:Int) none 0 0,I 4]) l)
 (aE P Et #[Sl z A B,I c] l (fun d8 a7=>∃ b0 s f0,d8=Sl b0 s f0/\aE P V5 #[Sl D E F,I j,I k] a7 (fun d9 v=>∃ b1 b2 b3,d9=Sl b1 b2 b3/\a7.le v/\aE P Et #[Sl b1 b2 b3,I j] v (fun e0 a8=>∃ b4 u f1,e0=Sl b4 u f1/\v.le a8/\wpH P (aH 128 (I 0) (I (B4 (q*k)))) (fun e1 e2=>∃ b5 b6 b7,e1=Sl b5 b6 b7/\∃ (r:LP) (H:LN),r [.slice b5 b6 b7,I 0] e2/\
 ∀ m n o a e,r [.slice m n o,I a] e->Bd (a<(s:Int)) (∃ p,Ax b0 p a s <| ∃ (J:OA) (L M:Nat) (N:Bool) (O:OA) (Q R:Nat),e.cell? (aJ (p.add (a.toNat*3)) 0)=some (.slice J L M)/\e.cell? (aJ (p.add (a.toNat*3)) 1)=some (.bool N)/\e.cell? (aJ (p.add (a.toNat*3)) 2)=some (.slice O Q R)/\∃ (t:LP) (S:LN),t [.slice m n o,I 0] e/\
 ∀ f g i b d,t [.slice f g i,I b] d->Bd (b<(u:Int)) (∃ c,Ax b4 c b u <| ∃ (T:OA) (V W:Nat) (X:Bool) (Z:OA) (a0 a1:Nat),d.cell? (aJ (c.add (b.toNat*3)) 0)=some (.slice T V W)/\d.cell? (aJ (c.add (b.toNat*3)) 1)=some (.bool X)/\d.cell? (aJ (c.add (b.toNat*3)) 2)=some (.slice Z a0 a1)/\aE P Tr #[.agg #[Sl J L M,.bool N,Sl O Q R],.agg #[Sl T V W,.bool X,Sl Z a0 a1]] d (fun e3 e4=>∃ b8 b9 c0 c1 c2 c3 c4 c5,e3=Qv b8 b9 c0 c1 c2 c3 c4 c5/\wpH P (aD 128 1 #[(0,Qv b8 b9 c0 c1 c2 c3 c4 c5)]) (fun e5 e6=>∃ c6 c7 c8,e5=Sl c6 c7 c8/\wpH P (aC #[128,128] 128 #[Sl f g i,Sl c6 c7 c8]) (fun e7 a9=>∃ w x y,e7=Sl w x y/\t [.slice w x y,I (B4 (b+1))] a9/\S [.slice w x y,I (B4 (b+1))] a9<S [.slice f g i,I b] d) e6) e4))
 (r [.slice f g i,I (B4 (a+1))] d/\H [.slice f g i,I (B4 (a+1))] d<H [.slice m n o,I a] e))
 (aE P A1e #[I q,I k,Sl m n o] e (fun e8 e9=>∃ (a2:Int) (a3:Int) (a4:OA) (a5 a6:Nat),e8=Mv a2 a3 a4 a5 a6/\K (.tuple #[Mv a2 a3 a4 a5 a6,I 0]) e9))) a8))))))))
def C2n a b c d e f g i j k(hvc:C70 prog a b c d e f g i j k h K):aE prog A8t #[Mv a b c d e,Mv f g i j k] h K:=
 fnk func97 ⟨[(11,⟨[12,61],[],[N0,I 0],⟨([12,14,16]++Lrg 61 18),[14,16]⟩⟩),(14,⟨[12,67],[],[N0,I 0],⟨([12,16]++Lrg 67 11),[16]⟩⟩)],[],[(8,([0,1,2,3,4,6,7,5,8,9],[]))],[],[]⟩ [2,3,4,14,16] [] hvc
def C08(P:aG)(o:Int)(i:Int)(a9:OA)(b0 b1:Nat)(b2:OA)(p b3:Nat)(h:aI)(K:VP):Prop:=
 aE P Qt #[Mv o i a9 b0 b1] h (fun b4 b5=>∃ (q:OA) (r s:Nat) (t:Bool),b4= .tuple #[Sl q r s,.bool t]/\aE P Es #[Sl b2 p b3] b5 (fun b6 c=>∃ (u:OA) (v w:Nat) (x:Bool),b6= .tuple #[Sl u v w,.bool x]/\Br (!t) (K (.tuple #[Sl none 0 0,I 1]) c)
 (Br (!x) (K (.tuple #[Sl none 0 0,I 1]) c)
 (Br ((p:Int) != i) (K (.tuple #[Sl none 0 0,I 4]) c)
 (aE P Dg #[Sl u v w] c (fun b7 b8=>∃ (y:OA) (z A:Nat) (B:Bool) (C:OA) (D E:Nat),b7= .agg #[Sl y z A,.bool B,Sl C D E]/\wpH P (aH 38 (I 0) (I o)) (fun b9 c0=>∃ S T V,b9=Sl S T V/\aE P Et #[Sl q r s,I i] c0 (fun c1 c2=>∃ W k d0,c1=Sl W k d0/\∃ (j:LP) (F:LN),j [.slice S T V,I 0] c2/\
 ∀ d e f a b,j [.slice d e f,I a] b->Bd (a<(k:Int)) (∃ g,Ax W g a k <| ∃ (G:OA) (H J:Nat) (L:Bool) (M:OA) (N O:Nat),b.cell? (aJ (g.add (a.toNat*3)) 0)=some (.slice G H J)/\b.cell? (aJ (g.add (a.toNat*3)) 1)=some (.bool L)/\b.cell? (aJ (g.add (a.toNat*3)) 2)=some (.slice M N O)/\aE P Tr #[.agg #[Sl G H J,.bool L,Sl M N O],.agg #[Sl y z A,.bool B,Sl C D E]] b (fun c3 c4=>∃ X Z a0 a1 a2 a3 a4 a5,c3=Qv X Z a0 a1 a2 a3 a4 a5/\aE P V3 #[Qv X Z a0 a1 a2 a3 a4 a5] c4 (fun c5 c6=>∃ (Q:ByteArray),c5= .string Q/\wpH P (aD 38 1 #[(0,.string Q)]) (fun c7 c8=>∃ a6 a7 a8,c7=Sl a6 a7 a8/\wpH P (aC #[38,38] 38 #[Sl d e f,Sl a6 a7 a8]) (fun c9 R=>∃ l m n,c9=Sl l m n/\j [.slice l m n,I (B4 (a+1))] R/\F [.slice l m n,I (B4 (a+1))] R<F [.slice d e f,I a] b) c8) c6)))
 (K (.tuple #[Sl d e f,I 0]) b))) b8))))))
def B5z a b c d e f g i(hvc:C08 prog a b c d e f g i h K):aE prog Tt #[Mv a b c d e,Sl f g i] h K:=
 fnk func101 { loops:=[(10,⟨[11,45],[],[N0,I 0],⟨([11,13]++Lrg 45 12),[13]⟩⟩)] } [2,10,13] [] hvc
def Zt(P:aG)(f:OA)(a x:Nat)(h:aI)(K:VP):Prop:=
 (wpH P (aH 220 (I (a:Int)) (I (a:Int))) (fun b5 j=>∃ l m G,b5=Sl l m G/\h.le j/\aE P J6 #[Sl f a x] j (fun b6 A=>∃ n o p q,b6=Zv n o p q/\j.le A/\∃ (g:LP) (y:LN),g [I 0] A/\
 ∀ b d,g [I b] d->Bd (b<(a:Int)) (∃ H,Ax f H b a <| ∃ J L M N O Q R S,Lq d (H.add (b.toNat*4)) J L M N O Q R S<|aE P Ij #[Qv J L M N O Q R S,Zv n o p q] d (fun b7 B=>∃ T V W X,b7=Zv T V W X/\d.le B/\∃ Z,Ax l Z b m<|wpH P (aF 138 (Pt (Z.add (b.toNat*2))) (Zv T V W X)) (fun _ C=>g [I (B4 (b+1))] C/\y [I (B4 (b+1))] C<y [I b] d) B))
 (K (.agg #[Sl l m G,.bool n,Sl o p q]) d))) h)/\(aE P J6 #[Sl f a x] h (fun b8 k=>∃ r s t u,b8=Zv r s t u/\h.le k/\wpH P (aH 220 (I (a:Int)) (I (a:Int))) (fun b9 D=>∃ v w a0,b9=Sl v w a0/\k.le D/\∃ (i:LP) (z:LN),i [I 0] D/\
 ∀ c e,i [I c] e->Bd (c<(a:Int)) (∃ a1,Ax f a1 c a <| ∃ a2 a3 a4 a5 a6 a7 a8 a9,Lq e (a1.add (c.toNat*4)) a2 a3 a4 a5 a6 a7 a8 a9<|aE P Ij #[Qv a2 a3 a4 a5 a6 a7 a8 a9,Zv r s t u] e (fun c0 E=>∃ b0 b1 b2 b3,c0=Zv b0 b1 b2 b3/\e.le E/\∃ b4,Ax v b4 c w<|wpH P (aF 138 (Pt (b4.add (c.toNat*2))) (Zv b0 b1 b2 b3)) (fun _ F=>i [I (B4 (c+1))] F/\z [I (B4 (c+1))] F<z [I c] e) E))
 (K (.agg #[Sl v w a0,.bool r,Sl s t u]) e)) k))
def A2a a b c(hvc:Zt prog a b c h K):aE prog Dg #[Sl a b c] h K:=
 fnk func182 ⟨[(3,⟨[14],[],[I 0],⟨([4,5]++Lrg 14 14),[5]⟩⟩)],[],[(1,([0,1,3,6,2,4,5,7],[]))],[],[(1,[(2,[4])])]⟩ [2,3,5] [] hvc
def A9g(P:aG)(D:OA)(E F:Nat)(G:Int)(h:aI)(K:VP):Prop:=
 wpH P (aK 231 true (T0)) (fun L M=>∃ (a:Addr),L=Pt a/\aE P Ts #[Sl D E F,I G] M (fun N O=>∃ (d:Value),N=d/\A53 P (d) O (fun (H:List Value) (b:aI) (J:aI->Prop)=>∃ (e:OA) (f g:Nat),H=[.slice e f g]/\∃ (i:OA) (j k:Nat),b.cell? a=some (.slice i j k)/\aE P Dg #[Sl e f g] b (fun Q c=>∃ (l:OA) (m n:Nat) (o:Bool) (p:OA) (q r:Nat),Q= .agg #[Sl l m n,.bool o,Sl p q r]/\b.le c/\wpH P (aD 231 1 #[(0,.agg #[Sl l m n,.bool o,Sl p q r])]) (fun R v=>∃ x y z,R=Sl x y z/\c.le v/\wpH P (aC #[231,231] 231 #[Sl i j k,Sl x y z]) (fun S T=>∃ A B C,S=Sl A B C/\wpH P (aF 231 (Pt a) (.slice A B C)) (fun _ V=>J V) T) v) c))
 (fun w=>∃ (s:OA) (t u:Nat),w.cell? a=some (.slice s t u)/\K (Sl s t u) w))) h
def A7l a b c d(hvc:A9g prog a b c d h K):aE prog Et #[Sl a b c,I d] h K:=
 fnk func176 { rounds:=[(4,[N0])] } [] [1000000000] hvc
def C06(P:aG)(b:Int)(a:Int)(a0:OA)(a1 a2:Nat)(a3:OA)(m a4:Nat)(h:aI)(K:VP):Prop:=
 aE P Qt #[Mv b a a0 a1 a2] h (fun a6 a7=>∃ (d:OA) (e f:Nat) (n:Bool),a6= .tuple #[Sl d e f,.bool n]/\aE P Es #[Sl a3 m a4] a7 (fun a8 c=>∃ (g:OA) (i j:Nat) (o:Bool),a8= .tuple #[Sl g i j,.bool o]/\Br (!n) (K (.tuple #[Sl none 0 0,Sl none 0 0,I 1]) c)
 (Br (!o) (K (.tuple #[Sl none 0 0,Sl none 0 0,I 1]) c)
 (Br ((m:Int) != b) (K (.tuple #[Sl none 0 0,Sl none 0 0,I 4]) c)
 (aE P Oo #[Sl d e f,I b,I a,Sl g i j] c (fun a9 w=>∃ (p:OA) (q r:Nat) (s:Bool),a9= .tuple #[Sl p q r,.bool s]/\Br s (aE P Er #[Sl p q r] w (fun b0 b1=>∃ z A B,b0=Sl z A B/\K (.tuple #[Sl z A B,Sl none 0 0,I 0]) b1))
 (aE P V5 #[Sl d e f,I b,I a] w (fun b2 b3=>∃ C D E,b2=Sl C D E/\wpH P (aC #[128,128] 128 #[Sl C D E,Sl g i j]) (fun b4 b5=>∃ F G H,b4=Sl F G H/\wpH P (aH 128 (I (B4 (a+1))) (I (B4 (a+1)))) (fun b6 x=>∃ k l J,b6=Sl k l J/\aE P A15 #[I 1] x (fun b7 y=>∃ L M N O Q R S T,b7=Qv L M N O Q R S T/\x.le y/\∃ V,Ax k V a l<|wpH P (aF 145 (Pt (V.add (a.toNat*4))) (Qv L M N O Q R S T)) (fun _ b8=>aE P Oo #[Sl F G H,I (B4 (a+1)),I b,Sl k l J] b8 (fun b9 c0=>∃ (t:OA) (u v:Nat) (a5:Bool),b9= .tuple #[Sl t u v,.bool a5]/\aE P Er #[Sl t u v] c0 (fun c1 c2=>∃ W X Z,c1=Sl W X Z/\K (.tuple #[Sl none 0 0,Sl W X Z,I 8]) c2))) y)) b5) b3))))))))
def B5v a b c d e f g i(hvc:C06 prog a b c d e f g i h K):aE prog A1f #[Mv a b c d e,Sl f g i] h K:=
 fnk func124 an0 [2] [] hvc
def B5w(P:aG)(c0:OA)(e1 m:Nat)(c1:Int)(a:Int)(c2:OA)(c3 e2:Nat)(h:aI)(K:VP):Prop:=
 ∃ (n:LP) (v:LN),n [N0,I 0] h/\
 ∀ i j k b l,n [.slice i j k,I b] l->Bd (b<c1) ((0<=B4 ((B4 (b+1))*a)/\B4 ((B4 (b+1))*a)<=(m:Int))/\(0<=B4 (b*a)/\B4 (b*a)<=(((B4 ((B4 (b+1))*a)).toNat:Nat):Int))/\wpH P (aC #[128,128] 128 #[Sl i j k,.slice (J9 c0 m ((B4 (b*a)).toNat) 4) (((B4 ((B4 (b+1))*a)).toNat)-((B4 (b*a)).toNat)) (m-((B4 (b*a)).toNat))]) (fun c7 D=>∃ J L M,c7=Sl J L M/\∃ N,Ax c2 N b c3 <| ∃ O Q R S T V W X,Lq D (N.add (b.toNat*4)) O Q R S T V W X<|wpH P (aD 128 1 #[(0,Qv O Q R S T V W X)]) (fun c8 c9=>∃ Z a0 a1,c8=Sl Z a0 a1/\wpH P (aC #[128,128] 128 #[Sl J L M,Sl Z a0 a1]) (fun d0 E=>∃ p q r,d0=Sl p q r/\n [.slice p q r,I (B4 (b+1))] E/\v [.slice p q r,I (B4 (b+1))] E<v [.slice i j k,I b] l) c9) D) l)
 (aE P Gi #[Sl i j k,I (B4 (a+1))] l (fun d1 d2=>∃ (e:OA),d1= .pointer e/\aE P Ot #[.pointer e,I a] d2 (fun d3 d4=>∃ (w:OA) (f c4:Nat) (x:Bool) (y:OA) (z A:Nat) (c5:Int),d3= .tuple #[Sl w f c4,Zv x y z A,I c5]/\aE P A1i #[.pointer e,I (f:Int),I a] d4 (fun d5 F=>∃ (c6:Int) (B:Bool),d5= .tuple #[I c6,.bool B]/\Br B (K (.tuple #[Sl none 0 0,.bool false]) F)
 (wpH P (aH 128 (I a) (I a)) (fun d6 d7=>∃ s t a2,d6=Sl s t a2/\∃ (o:LP) (C:LN),o [I 0] d7/\
 ∀ c d,o [I c] d->Bd (c<(f:Int)) (∃ a3,Ax w a3 c f <| ∃ u,d.cell? (a3.add (c.toNat*1))=some (I u)/\aE P Oq #[.pointer e,I c] d (fun d8 g=>∃ a4 a5 e0,d8=Sl a4 a5 e0/\d.le g/\∃ a6,Ax a4 a6 a a5 <| ∃ a7 a8 a9 b0,Lz g (a6.add (a.toNat*2)) a7 a8 a9 b0<|aE P X8 #[Zv a7 a8 a9 b0,Zv x y z A] g (fun d9 G=>∃ b1 b2 b3 b4 b5 b6 b7 b8,d9=Qv b1 b2 b3 b4 b5 b6 b7 b8/\g.le G/\∃ b9,Ax s b9 u t<|wpH P (aF 145 (Pt (b9.add (u.toNat*4))) (Qv b1 b2 b3 b4 b5 b6 b7 b8)) (fun _ H=>o [I (B4 (c+1))] H/\C [I (B4 (c+1))] H<C [I c] d) G)))
 (K (.tuple #[Sl s t a2,.bool true]) d)) F)))))
def B17 a b c d e f g i(hvc:B5w prog a b c d e f g i h K):aE prog Oo #[Sl a b c,I d,I e,Sl f g i] h K:=
 fnk func214 ⟨[(3,⟨[10,22],[],[N0,I 0],⟨([10,11]++Lrg 22 22),[]⟩⟩),(15,⟨[68],[],[I 0],⟨([19,20]++Lrg 68 17),[]⟩⟩)],[],[(17,([0,1,2,3,5,8,4,6,7,9,10,11],[]))],[],[]⟩ [14] [174] hvc
def Wy(P:aG)(D:OA)(r M:Nat)(E:Int)(l:Int)(h:aI)(K:VP):Prop:=
 wpH P (aH 38 (I 0) (I (r:Int))) (fun F G=>∃ w x y,F=Sl w x y/\∃ (m:LP) (s:LN),m [.slice w x y,I 0] G/\
 ∀ g i j a k,m [.slice g i j,I a] k->Bd (a<l) (∃ (n:LP) (t:LN),n [.slice g i j,I 0] k/\
 ∀ d e f b c,n [.slice d e f,I b] c->Bd (b<E) (∃ z,Ax D z (B4 ((B4 (b*l))+a)) r <| ∃ (u:ByteArray),c.cell? (z.add ((B4 ((B4 (b*l))+a)).toNat*1))=some (.string u)/\wpH P (aD 38 1 #[(0,.string u)]) (fun H J=>∃ A B C,H=Sl A B C/\wpH P (aC #[38,38] 38 #[Sl d e f,Sl A B C]) (fun L v=>∃ o p q,L=Sl o p q/\n [.slice o p q,I (B4 (b+1))] v/\t [.slice o p q,I (B4 (b+1))] v<t [.slice d e f,I b] c) J) c)
 (m [.slice d e f,I (B4 (a+1))] c/\s [.slice d e f,I (B4 (a+1))] c<s [.slice g i j,I a] k))
 (K (Sl g i j) k)) h
def Xx a b c d e(hvc:Wy prog a b c d e h K):aE prog Gh #[Sl a b c,I d,I e] h K:=
 fnk func213 { loops:=[(3,⟨[7,14],[],[N0,I 0],⟨([7,8,9]++Lrg 14 20),[]⟩⟩),(6,⟨[7,18],[],[N0,I 0],⟨([7,9]++Lrg 18 15),[]⟩⟩)] } [] [] hvc
def Wz(P:aG)(M:OA)(r V:Nat)(N:Int)(l:Int)(h:aI)(K:VP):Prop:=
 wpH P (aH 128 (I 0) (I (r:Int))) (fun O Q=>∃ v w x,O=Sl v w x/\∃ (m:LP) (s:LN),m [.slice v w x,I 0] Q/\
 ∀ g i j a k,m [.slice g i j,I a] k->Bd (a<l) (∃ (n:LP) (t:LN),n [.slice g i j,I 0] k/\
 ∀ d e f b c,n [.slice d e f,I b] c->Bd (b<N) (∃ y,Ax M y (B4 ((B4 (b*l))+a)) r <| ∃ z A B C D E F G,Lq c (y.add ((B4 ((B4 (b*l))+a)).toNat*4)) z A B C D E F G<|wpH P (aD 128 1 #[(0,Qv z A B C D E F G)]) (fun R S=>∃ H J L,R=Sl H J L/\wpH P (aC #[128,128] 128 #[Sl d e f,Sl H J L]) (fun T u=>∃ o p q,T=Sl o p q/\n [.slice o p q,I (B4 (b+1))] u/\t [.slice o p q,I (B4 (b+1))] u<t [.slice d e f,I b] c) S) c)
 (m [.slice d e f,I (B4 (a+1))] c/\s [.slice d e f,I (B4 (a+1))] c<s [.slice g i j,I a] k))
 (K (Sl g i j) k)) h
def Xy a b c d e(hvc:Wz prog a b c d e h K):aE prog V5 #[Sl a b c,I d,I e] h K:=
 fnk func177 { loops:=[(3,⟨[7,14],[],[N0,I 0],⟨([7,8,9]++Lrg 14 20),[]⟩⟩),(6,⟨[7,18],[],[N0,I 0],⟨([7,9]++Lrg 18 15),[]⟩⟩)] } [] [] hvc
def C05(P:aG)(N:OA)(g a7:Nat)(O:Bool)(Q:OA)(R S:Nat)(T:OA)(V a8:Nat)(W:Bool)(X:OA)(Z a0:Nat)(h:aI)(K:VP):Prop:=
 wpH P (aK 265 true (T0)) (fun a1 a2=>∃ (c:Addr),a1=Pt c/\∃ (d:LP) (i:LN),d [I 0] a2/\
 ∀ a b,d [I a] b->Bd (a<(g:Int)) (∃ l,Ax N l a g <| ∃ m n o p,Lz b (l.add (a.toNat*2)) m n o p <| ∃ q,Ax T q a V <| ∃ r s t u,Lz b (q.add (a.toNat*2)) r s t u<|aE P V1 #[Pt c,Zv m n o p,Zv r s t u] b (fun a3 j=>a3=T0/\d [I (B4 (a+1))] j/\i [I (B4 (a+1))] j<i [I a] b))
 (aE P Tm #[Pt c] b (fun a4 e=>∃ v w x y,a4=Zv v w x y/\b.le e/\aE P Bh #[Zv O Q R S,Zv W X Z a0] e (fun a5 f=>∃ z A B C,a5=Zv z A B C/\e.le f/\aE P X8 #[Zv v w x y,Zv z A B C] f (fun a6 k=>∃ D E F G H J L M,a6=Qv D E F G H J L M/\f.le k/\K (Qv D E F G H J L M) k))))) h
def B5u a b c d e f g i j k l m n o(hvc:C05 prog a b c d e f g i j k l m n o h K):aE prog Tr #[.agg #[Sl a b c,.bool d,Sl e f g],.agg #[Sl i j k,.bool l,Sl m n o]] h K:=
 fnk func178 ⟨[(3,⟨[11],[],[I 0],⟨([6,7]++Lrg 11 13),[7]⟩⟩)],[],[(7,([1,2,3,4,0,5,6,7],[]))],[],[]⟩ [2,3,4,7] [244] hvc
def A58(P:aG)(m3:OA)(m4 m5:Nat)(b5:Int)(h:aI)(K:VP):Prop:=
 wpH P (Instr.box 225 (.agg #[I b5,Sl none 0 0,Sl none 0 0])) (fun m8 m9=>∃ (b6:Addr),m8=Pt b6/\wpH P (aK 135 true (T0)) (fun n0 n1=>∃ (a:Addr),n0=Pt a/\wpH P (aF 135 (Pt a) (Pt b6)) (fun _ n2=>aE P Ts #[Sl m3 m4 m5,I b5] n2 (fun n3 n4=>∃ (b7:Value),n3=b7/\A53 P (b7) n4 (fun (m6:List Value) (m7:aI) (w:aI->Prop)=>∃ (V:OA) (x b8:Nat),m6=[.slice V x b8]/\aE P J6 #[Sl V x b8] m7 (fun n5 Z=>∃ B C D E,n5=Zv B C D E/\∃ (b9:OA),Z.cell? a=some (.pointer b9)/\∃ e6,b9=some e6/\∃ q6 e q7,Hd Z (e6.add 1) q6 e q7 <| ∃ (s:LP) (q:LN),s [I 0,.bool false,N0] Z/\
 ∀ c g i j k l,s [I c,.bool g,.slice i j k] l->Bd (c<(x:Int)) (∃ e7,Ax V e7 c x <| ∃ e8 e9 f0 f1 f2 f3 f4 f5,Lq l (e7.add (c.toNat*4)) e8 e9 f0 f1 f2 f3 f4 f5<|aE P Ij #[Qv e8 e9 f0 f1 f2 f3 f4 f5,Zv B C D E] l (fun n6 n7=>∃ F G H J,n6=Zv F G H J/\aE P Od #[Zv g i j k,Zv F G H J] n7 (fun n8 f=>∃ m n o p,n8=Zv m n o p/\∃ (c0:OA),f.cell? a=some (.pointer c0)/\∃ f6,c0=some f6/\∃ L M N,Hd f (f6.add 1) L M N<|(∃ (c1:OA),f.cell? a=some (.pointer c1)/\wpH P (aD 220 1 #[(0,Zv F G H J)]) (fun n9 d4=>∃ f7 f8 f9,n9=Sl f7 f8 f9/\f.le d4/\wpH P (aC #[220,220] 220 #[Sl L M N,Sl f7 f8 f9]) (fun o0 o1=>∃ g0 g1 g2,o0=Sl g0 g1 g2/\∃ g3,c1=some g3/\wpH P (aF 220 (Pt (g3.add 1)) (.slice g0 g1 g2)) (fun _ d5=>s [I (B4 (c+1)),.bool m,.slice n o p] d5/\q [I (B4 (c+1)),.bool m,.slice n o p] d5<q [I c,.bool g,.slice i j k] l) o1) d4) f)/\(wpH P (aD 220 1 #[(0,Zv F G H J)]) (fun o2 z=>∃ a1 a2 a3,o2=Sl a1 a2 a3/\f.le z/\(∃ (c2:OA),z.cell? a=some (.pointer c2)/\wpH P (aC #[220,220] 220 #[Sl L M N,Sl a1 a2 a3]) (fun o3 o4=>∃ g4 g5 g6,o3=Sl g4 g5 g6/\∃ g7,c2=some g7/\wpH P (aF 220 (Pt (g7.add 1)) (.slice g4 g5 g6)) (fun _ d6=>s [I (B4 (c+1)),.bool m,.slice n o p] d6/\q [I (B4 (c+1)),.bool m,.slice n o p] d6<q [I c,.bool g,.slice i j k] l) o4) z)/\(wpH P (aC #[220,220] 220 #[Sl L M N,Sl a1 a2 a3]) (fun o5 d7=>∃ g8 g9 h0,o5=Sl g8 g9 h0/\∃ (c3:OA),d7.cell? a=some (.pointer c3)/\∃ h1,c3=some h1/\wpH P (aF 220 (Pt (h1.add 1)) (.slice g8 g9 h0)) (fun _ d8=>s [I (B4 (c+1)),.bool m,.slice n o p] d8/\q [I (B4 (c+1)),.bool m,.slice n o p] d8<q [I c,.bool g,.slice i j k] l) d7) z)) f))))
 (∃ (W:LP),(aE P E8 #[Zv g i j k] l (fun o6 d9=>∃ (c4:Bool),o6= .bool c4/\Br c4 (aE P Rx #[I 1] d9 (fun o7 o8=>∃ h2 h3 h4 h5,o7=Zv h2 h3 h4 h5/\W [.bool h2,.slice h3 h4 h5] o8))
 (W [.bool g,.slice i j k] d9)))/\
 ∀ O Q R S T,W [.bool O,.slice Q R S] T->∃ (c5:OA),T.cell? a=some (.pointer c5)/\∃ h6,c5=some h6/\∃ h7 y h8,Hd T (h6.add 1) h7 y h8<|(0<=(e:Int)/\(e:Int)<=(y:Int))/\∃ (X:LP) (c6:LN),X [I 0] T/\
 ∀ d b,X [I d] b->Bd (d<((y-(((e:Int)).toNat):Nat):Int)) (∃ h9,J9 h7 h8 (((e:Int)).toNat) 2=some h9/\0<=d/\d<((y-(((e:Int)).toNat):Nat):Int)/\∃ i0 i1 i2 i3,Lz b (h9.add (d.toNat*2)) i0 i1 i2 i3 <| ∃ (c7:OA),b.cell? a=some (.pointer c7)/\∃ i4,c7=some i4/\∃ i5 i6 q8,Hd b (i4.add 1) i5 i6 q8<|aE P Ep #[Zv i0 i1 i2 i3,Zv O Q R S] b (fun o9 e0=>∃ i7 i8 i9 j0,o9=Zv i7 i8 i9 j0/\b.le e0/\∃ j1,Ax i5 j1 (B4 ((e:Int)+d)) i6<|wpH P (aF 138 (Pt (j1.add ((B4 ((e:Int)+d)).toNat*2))) (Zv i7 i8 i9 j0)) (fun _ e1=>X [I (B4 (d+1))] e1/\c6 [I (B4 (d+1))] e1<c6 [I d] b) e0))
 (∃ (c8:OA),b.cell? a=some (.pointer c8)/\∃ j2,c8=some j2/\∃ t u v,Hd b (j2.add 2) t u v<|(∃ (c9:OA),b.cell? a=some (.pointer c9)/\aE P X8 #[Zv B C D E,Zv O Q R S] b (fun p0 a0=>∃ j3 j4 j5 j6 j7 j8 j9 k0,p0=Qv j3 j4 j5 j6 j7 j8 j9 k0/\b.le a0/\wpH P (aD 128 1 #[(0,Qv j3 j4 j5 j6 j7 j8 j9 k0)]) (fun p1 e2=>∃ k1 k2 k3,p1=Sl k1 k2 k3/\a0.le e2/\wpH P (aC #[128,128] 128 #[Sl t u v,Sl k1 k2 k3]) (fun p2 p3=>∃ k4 k5 k6,p2=Sl k4 k5 k6/\∃ k7,c9=some k7/\wpH P (aF 128 (Pt (k7.add 2)) (.slice k4 k5 k6)) (fun _ p4=>w p4) p3) e2) a0))/\(aE P X8 #[Zv B C D E,Zv O Q R S] b (fun p5 r=>∃ a4 a5 a6 a7 a8 a9 b0 b1,p5=Qv a4 a5 a6 a7 a8 a9 b0 b1/\b.le r/\(∃ (d0:OA),r.cell? a=some (.pointer d0)/\wpH P (aD 128 1 #[(0,Qv a4 a5 a6 a7 a8 a9 b0 b1)]) (fun p6 e3=>∃ k8 k9 l0,p6=Sl k8 k9 l0/\r.le e3/\wpH P (aC #[128,128] 128 #[Sl t u v,Sl k8 k9 l0]) (fun p7 p8=>∃ l1 l2 l3,p7=Sl l1 l2 l3/\∃ l4,d0=some l4/\wpH P (aF 128 (Pt (l4.add 2)) (.slice l1 l2 l3)) (fun _ p9=>w p9) p8) e3) r)/\(wpH P (aD 128 1 #[(0,Qv a4 a5 a6 a7 a8 a9 b0 b1)]) (fun q0 A=>∃ b2 b3 b4,q0=Sl b2 b3 b4/\r.le A/\(∃ (d1:OA),A.cell? a=some (.pointer d1)/\wpH P (aC #[128,128] 128 #[Sl t u v,Sl b2 b3 b4]) (fun q1 q2=>∃ l5 l6 l7,q1=Sl l5 l6 l7/\∃ l8,d1=some l8/\wpH P (aF 128 (Pt (l8.add 2)) (.slice l5 l6 l7)) (fun _ q3=>w q3) q2) A)/\(wpH P (aC #[128,128] 128 #[Sl t u v,Sl b2 b3 b4]) (fun q4 e4=>∃ l9 m0 m1,q4=Sl l9 m0 m1/\∃ (d2:OA),e4.cell? a=some (.pointer d2)/\∃ m2,d2=some m2/\wpH P (aF 128 (Pt (m2.add 2)) (.slice l9 m0 m1)) (fun _ q5=>w q5) e4) A)) r)))))))
 (fun e5=>∃ (d3:OA),e5.cell? a=some (.pointer d3)/\K (.pointer d3) e5))) n1) m9) h
def A57 a b c d(hvc:A58 prog a b c d h K):aE prog Gi #[Sl a b c,I d] h K:=
 fnk func163 ⟨[(8,⟨[31],[(9,2)],[I 0,.bool false,N0],⟨([11,12]++Lrg 31 21),[9,11,12]⟩⟩),(17,⟨[62],[],[I 0],⟨([13,14]++Lrg 62 17),[14]⟩⟩)],[(16,⟨[],[(9,2)],[.bool false,N0],⟨[52,53,54],[9]⟩⟩)],[(12,([1,2,3,4,5,0,6,7,8,9,10],[])),(21,([1,2,3,4,5,6,0,7,8,9,10,11,12],[]))],[(4,[N0])],[(12,[(0,[6,7])]),(21,[(0,[7,8,9])])]⟩ [7,9,11,12,14] [1000000000] hvc
def C74(P:aG)(e:OA)(a:Int)(h:aI)(K:VP):Prop:=
 ∃ f,e=some f/\∃ g k d,Hd h (f.add 1) g k d <| ∃ i,e=some i/\∃ b,h.cell? (i.add 0)=some (I b)/\∃ j,e=some j/\∃ c,h.cell? (j.add 0)=some (I c)/\(0<=B4 ((B4 (a+1))*c)/\B4 ((B4 (a+1))*c)<=(d:Int))/\(0<=B4 (a*b)/\B4 (a*b)<=(((B4 ((B4 (a+1))*c)).toNat:Nat):Int))/\K (.slice (J9 g d ((B4 (a*b)).toNat) 2) (((B4 ((B4 (a+1))*c)).toNat)-((B4 (a*b)).toNat)) (d-((B4 (a*b)).toNat))) h
def C2q a b(hvc:C74 prog a b h K):aE prog Oq #[.pointer a,I b] h K:=
 fnk func165 an0 [] [] hvc
def C4r(P:aG)(c:OA)(d:Int)(e:Int)(h:aI)(K:VP):Prop:=
 aE P Oq #[.pointer c,I d] h (fun b0 b1=>∃ i f b7,b0=Sl i f b7/\aE P Oq #[.pointer c,I e] b1 (fun b2 b3=>∃ j k b8,b2=Sl j k b8/\∃ (g:LP) (l:LN),g [I 0] b3/\
 ∀ a b,g [I a] b->Bd (a<(f:Int)) (∃ n,Ax j n a k <| ∃ o p q r,Lz b (n.add (a.toNat*2)) o p q r <| ∃ s,Ax i s a f <| ∃ t u v w,Lz b (s.add (a.toNat*2)) t u v w <| ∃ x,Ax i x a f<|wpH P (aF 138 (Pt (x.add (a.toNat*2))) (Zv o p q r)) (fun _ b4=>∃ y,Ax j y a k<|wpH P (aF 138 (Pt (y.add (a.toNat*2))) (Zv t u v w)) (fun _ m=>g [I (B4 (a+1))] m/\l [I (B4 (a+1))] m<l [I a] b) b4) b)
 (∃ z,c=some z/\∃ A B b9,Hd b (z.add 2) A B b9 <| ∃ C,c=some C/\∃ D E c0,Hd b (C.add 2) D E c0 <| ∃ F,c=some F/\∃ G H c1,Hd b (F.add 2) G H c1 <| ∃ J,Ax G J e H <| ∃ L M N O Q R S T,Lq b (J.add (e.toNat*4)) L M N O Q R S T <| ∃ V,c=some V/\∃ W X c2,Hd b (V.add 2) W X c2 <| ∃ Z,Ax W Z d X <| ∃ a0 a1 a2 a3 a4 a5 a6 a7,Lq b (Z.add (d.toNat*4)) a0 a1 a2 a3 a4 a5 a6 a7 <| ∃ a8,Ax A a8 d B<|wpH P (aF 145 (Pt (a8.add (d.toNat*4))) (Qv L M N O Q R S T)) (fun _ b5=>∃ a9,Ax D a9 e E<|wpH P (aF 145 (Pt (a9.add (e.toNat*4))) (Qv a0 a1 a2 a3 a4 a5 a6 a7)) (fun _ b6=>K (T0) b6) b5) b)))
def B8v a b c(hvc:C4r prog a b c h K):aE prog A6w #[.pointer a,I b,I c] h K:=
 fnk func237 { loops:=[(2,⟨[17],[],[I 0],⟨([8]++Lrg 17 18),[]⟩⟩)] } [] [] hvc
def C4s(P:aG)(e:OA)(t:Int)(f:Int)(h:aI)(K:VP):Prop:=
 ∃ (c:LP) (g:LN),c [I t] h/\
 ∀ a b,c [I a] b->∃ l,e=some l/\∃ w i x,Hd b (l.add 2) w i x<|Bd (a<(i:Int)) (aE P Oq #[.pointer e,I a] b (fun u k=>∃ m n y,u=Sl m n y/\∃ o,Ax m o f n <| ∃ p q r s,Lz k (o.add (f.toNat*2)) p q r s<|aE P E8 #[Zv p q r s] k (fun v d=>∃ (j:Bool),v= .bool j/\Br (!j) (K (.tuple #[I a,.bool true]) d)
 (c [I (B4 (a+1))] d/\g [I (B4 (a+1))] d<g [I a] b))))
 (K (.tuple #[I 0,.bool false]) b)
def B8w a b c(hvc:C4s prog a b c h K):aE prog A1i #[.pointer a,I b,I c] h K:=
 fnk func246 { loops:=[(2,⟨[8],[],[I 0],⟨([6,7,8]++Lrg 10 18),[]⟩⟩)] } [] [] hvc
def C0h(P:aG)(x:OA)(b4:Int)(b5:Int)(f:Int)(b6:Bool)(b7:OA)(b8 b9:Nat)(h:aI)(K:VP):Prop:=
 aE P Oq #[.pointer x,I b4] h (fun c0 c1=>∃ j e d1,c0=Sl j e d1/\aE P Oq #[.pointer x,I b5] c1 (fun c2 B=>∃ k l d2,c2=Sl k l d2/\∃ J,Ax j J f e <| ∃ p q r s,Lz B (J.add (f.toNat*2)) p q r s <| ∃ (d:LP) (c:LN),d [I 0] B/\
 ∀ a b,d [I a] b->Bd (a<(e:Int)) (∃ L,Ax j L a e <| ∃ t u v w,Lz b (L.add (a.toNat*2)) t u v w <| ∃ (m:LP),(aE P E8 #[Zv t u v w] b (fun c3 C=>∃ (y:Bool),c3= .bool y/\Br y (aE P E8 #[Zv p q r s] C (fun c4 i=>∃ (z:Bool),c4= .bool z/\Br z (d [I (B4 (a+1))] i/\c [I (B4 (a+1))] i<c [I a] b)
 (∃ M,Ax k M a l <| ∃ N O Q R,Lz i (M.add (a.toNat*2)) N O Q R<|aE P E8 #[Zv N O Q R] i (fun c5 n=>∃ (A:Bool),c5= .bool A/\Br A (d [I (B4 (a+1))] n/\c [I (B4 (a+1))] n<c [I a] b)
 (m [] n)))))
 (m [] C)))/\
 ∀ S,m [] S->wpH P (aK 265 true (T0)) (fun c6 D=>∃ (g:Addr),c6=Pt g/\∃ T,Ax k T f l <| ∃ V W X Z,Lz D (T.add (f.toNat*2)) V W X Z<|aE P V1 #[Pt g,Zv V W X Z,Zv t u v w] D (fun c7 E=>c7=T0/\∃ a0,Ax k a0 a l <| ∃ a1 a2 a3 a4,Lz E (a0.add (a.toNat*2)) a1 a2 a3 a4<|aE P Gf #[Pt g,Zv p q r s,Zv a1 a2 a3 a4] E (fun c8 F=>c8=T0/\aE P Tm #[Pt g] F (fun c9 o=>∃ a5 a6 a7 a8,c9=Zv a5 a6 a7 a8/\F.le o/\aE P Ep #[Zv a5 a6 a7 a8,Zv b6 b7 b8 b9] o (fun d0 G=>∃ a9 b0 b1 b2,d0=Zv a9 b0 b1 b2/\o.le G/\∃ b3,Ax j b3 a e<|wpH P (aF 138 (Pt (b3.add (a.toNat*2))) (Zv a9 b0 b1 b2)) (fun _ H=>d [I (B4 (a+1))] H/\c [I (B4 (a+1))] H<c [I a] b) G))))) S)
 (K (T0) b)))
def B6a a b c d e f g i(hvc:C0h prog a b c d e f g i h K):aE prog A1j #[.pointer a,I b,I c,I d,Zv e f g i] h K:=
 fnk func172 ⟨[(4,⟨[28],[],[I 0],⟨([13,14,15]++Lrg 28 37),[14]⟩⟩)],[(7,⟨[],[],[],⟨(Lrg 33 13),[]⟩⟩)],[(10,([0,1,3,2,4,5,6],[]))],[],[]⟩ [9,12,14] [244,245] hvc
def B66(P:aG)(m:OA)(Z:Int)(h:aI)(K:VP):Prop:=
 aE P Rx #[I 1] h (fun a0 a1=>∃ L M N O,a0=Zv L M N O/\∃ (o:LP) (p:LN),o [N0,I 1,I 0,.bool L,.slice M N O] a1/\
 ∀ e a f d b g i j k n,o [.slice e a f,I d,I b,.bool g,.slice i j k] n->Bd (b<Z) (aE P A1i #[.pointer m,I (a:Int),I b] n (fun a2 s=>∃ (t:Int) (E:Bool),a2= .tuple #[I t,.bool E]/\Br (!E) (o [.slice e a f,I d,I (B4 (b+1)),.bool g,.slice i j k] s/\p [.slice e a f,I d,I (B4 (b+1)),.bool g,.slice i j k] s<p [.slice e a f,I d,I b,.bool g,.slice i j k] n)
 (∃ (u:LP),(Br (t != (a:Int)) (aE P A6w #[.pointer m,I (a:Int),I t] s (fun a3 a4=>a3=T0/\u [I (B4 (0-d))] a4))
 (u [I d] s))/\
 ∀ v w,u [I v] w->∃ Q,m=some Q/\∃ b0 F b1,Hd w (Q.add 2) b0 F b1 <| ∃ (q:LP) (r:LN),q [I 0] w/\
 ∀ c l,q [I c] l->Bd (c<(F:Int)) (Br (c != (a:Int)) (aE P A1j #[.pointer m,I c,I (a:Int),I b,Zv g i j k] l (fun a5 G=>a5=T0/\q [I (B4 (c+1))] G/\r [I (B4 (c+1))] G<r [I c] l))
 (q [I (B4 (c+1))] l/\r [I (B4 (c+1))] l<r [I c] l))
 (aE P Oq #[.pointer m,I (a:Int)] l (fun a6 H=>∃ R S b2,a6=Sl R S b2/\∃ T,Ax R T b S <| ∃ x y z A,Lz H (T.add (b.toNat*2)) x y z A<|wpH P (aD 70 1 #[(0,I b)]) (fun a7 a8=>∃ V W X,a7=Sl V W X/\wpH P (aC #[70,70] 70 #[Sl e a f,Sl V W X]) (fun a9 J=>∃ B C D,a9=Sl B C D/\o [.slice B C D,I v,I (B4 (b+1)),.bool x,.slice y z A] J/\p [.slice B C D,I v,I (B4 (b+1)),.bool x,.slice y z A] J<p [.slice e a f,I d,I b,.bool g,.slice i j k] n) a8) H)))))
 (K (.tuple #[Sl e a f,Zv g i j k,I d]) n))
def B1a a b(hvc:B66 prog a b h K):aE prog Ot #[.pointer a,I b] h K:=
 fnk func174 ⟨[(4,⟨[7,9,17],[(8,2)],[N0,I 0,I 0,.bool false,N0],⟨([7,9,10,11,12,13,14]++Lrg 17 52),[8]⟩⟩),(13,⟨[45],[],[I 0],⟨([14]++Lrg 45 13),[]⟩⟩)],[(12,⟨[9],[],[I 0],⟨([9]++Lrg 31 9),[]⟩⟩)],[],[],[]⟩ [5,8] [172,237] hvc
def C07(P:aG)(e:OA)(f g:Nat)(i:Int)(h:aI)(K:VP):Prop:=
 wpH P (Instr.box 128 (.slice e f g)) (fun j k=>∃ (b:Addr),j=Pt b/\wpH P (Instr.box 3 (I i)) (fun l d=>∃ (a:Addr),l=Pt a/\∃ (c:Int),d.cell? a=some (I c)/\Bd (c<1) (False)
 (K (.func (.func 276) #[] #[Pt b,Pt a]) d)) k) h
def B5x a b c d(hvc:C07 prog a b c d h K):aE prog Ts #[Sl a b c,I d] h K:=
 fnk func234 an0 [] [] hvc
def B5y(P:aG)(p:Nat)(f:Addr)(j:Addr)(h:aI)(K:VP):Prop:=
 ∃ (g:LP) (k:LN),g [I 0] h/\
 ∀ a d,g [I a] d->∃ (q:OA) (l r:Nat),d.cell? f=some (.slice q l r)/\Bd (a<(l:Int)) (∃ (c:Int),d.cell? j=some (I c)/\∃ (s:OA) (b t:Nat),d.cell? f=some (.slice s b t)/\(0<=a/\a<=(b:Int))/\∃ (m:OA) (u n:Nat),d.cell? f=some (.slice m u n)/\(0<=B4 (a+(if ((b-(a.toNat):Nat):Int)<c then ((b-(a.toNat):Nat):Int) else c))/\B4 (a+(if ((b-(a.toNat):Nat):Int)<c then ((b-(a.toNat):Nat):Int) else c))<=(n:Int))/\(0<=B4 (a+(if ((b-(a.toNat):Nat):Int)<c then ((b-(a.toNat):Nat):Int) else c))/\B4 (a+(if ((b-(a.toNat):Nat):Int)<c then ((b-(a.toNat):Nat):Int) else c))<=(((B4 (a+(if ((b-(a.toNat):Nat):Int)<c then ((b-(a.toNat):Nat):Int) else c))).toNat:Nat):Int))/\(0<=a/\a<=(((B4 (a+(if ((b-(a.toNat):Nat):Int)<c then ((b-(a.toNat):Nat):Int) else c))).toNat:Nat):Int))/\YCall P p #[.slice (J9 m ((B4 (a+(if ((b-(a.toNat):Nat):Int)<c then ((b-(a.toNat):Nat):Int) else c))).toNat) (a.toNat) 4) ((B4 (a+(if ((b-(a.toNat):Nat):Int)<c then ((b-(a.toNat):Nat):Int) else c))).toNat-a.toNat) ((B4 (a+(if ((b-(a.toNat):Nat):Int)<c then ((b-(a.toNat):Nat):Int) else c))).toNat-a.toNat)] d (fun v e=>∃ (o:Bool),v= .bool o/\Br (!o) (K (T0) e)
 (∃ (i:Int),e.cell? j=some (I i)/\g [I (B4 (a+i))] e/\k [I (B4 (a+i))] e<k [I a] d)))
 (K (T0) d)
def B18(a:Nat)(b:Addr)(c:Addr)(hvc:B5y prog a b c h K):aE prog Im #[.func (.yield a) #[] #[],Pt b,Pt c] h K:=
 fnk func276 { loops:=[(1,⟨[4],[],[I 0],⟨(Lrg 4 27),[]⟩⟩)] } [] [] hvc
def A2b:∀ (args:Array Value) (W:World),(callFunc Im args).run prog W= .ok (.enter Im args) W:=call276
def C4p(P:aG)(c:Int)(b:Int)(r:OA)(j s:Nat)(h:aI)(K:VP):Prop:=
 Bd (c<1) (K (.tuple #[Sl none 0 0,.bool false]) h)
 (Bd (c>64) (K (.tuple #[Sl none 0 0,.bool false]) h)
 (Bd (b<1) (K (.tuple #[Sl none 0 0,.bool false]) h)
 (Bd (b>64) (K (.tuple #[Sl none 0 0,.bool false]) h)
 (Br ((j:Int) != (B4 (c*b))) (K (.tuple #[Sl none 0 0,.bool false]) h)
 (aE P Lo #[Sl r j s] h (fun u n=>∃ (k:OA) (t d:Nat) (l:Bool),u= .tuple #[Sl k t d,.bool l]/\Br (!l) (K (.tuple #[Sl none 0 0,.bool false]) n)
 (wpH P (aH 56 (I c) (I c)) (fun v w=>∃ g i p,v=Sl g i p/\∃ (f:LP) (m:LN),f [I 0] w/\
 ∀ a e,f [I a] e->Bd (a<c) ((0<=B4 ((B4 (a+1))*b)/\B4 ((B4 (a+1))*b)<=(d:Int))/\(0<=B4 (a*b)/\B4 (a*b)<=(((B4 ((B4 (a+1))*b)).toNat:Nat):Int))/\∃ q,Ax g q a i<|wpH P (aF 75 (Pt (q.add (a.toNat*1))) (.slice (J9 k d ((B4 (a*b)).toNat) 4) (((B4 ((B4 (a+1))*b)).toNat)-((B4 (a*b)).toNat)) (d-((B4 (a*b)).toNat)))) (fun _ o=>f [I (B4 (a+1))] o/\m [I (B4 (a+1))] o<m [I a] e) e)
 (K (.tuple #[Sl g i p,.bool true]) e)) n)))))))
def B8t a b c d e(hvc:C4p prog a b c d e h K):aE prog A1g #[Mv a b c d e] h K:=
 fnk func61 { loops:=[(8,⟨[7],[],[I 0],⟨([7]++Lrg 48 20),[]⟩⟩)] } [1] [] hvc
def C0c(P:aG)(c:Int)(g:Int)(h:aI)(K:VP):Prop:=
 wpH P (aH 56 (I c) (I c)) (fun p q=>∃ e f k,p=Sl e f k/\∃ (d:LP) (i:LN),d [I 0] q/\
 ∀ a b,d [I a] b->Bd (a<c) (wpH P (aH 75 (I g) (I g)) (fun r s=>∃ l m n,r=Sl l m n/\∃ o,Ax e o a f<|wpH P (aF 75 (Pt (o.add (a.toNat*1))) (.slice l m n)) (fun _ j=>d [I (B4 (a+1))] j/\i [I (B4 (a+1))] j<i [I a] b) s) b)
 (K (Sl e f k) b)) h
def B64 a b(hvc:C0c prog a b h K):aE prog Tv #[I a,I b] h K:=
 fnk func115 { loops:=[(3,⟨[6],[],[I 0],⟨([6]++Lrg 9 10),[]⟩⟩)] } [] [] hvc
def C4q(P:aG)(B:OA)(k J:Nat)(h:aI)(K:VP):Prop:=
 ∃ (f:LP) (l:LN),f [N0,I 0] h/\
 ∀ b c d a e,f [.slice b c d,I a] e->Bd (a<(k:Int)) (wpH P (aD 75 0 #[]) (fun C m=>∃ o p q,C=Sl o p q/\∃ r,Ax B r a k <| ∃ s t u,Hd m (r.add (a.toNat*1)) s t u<|wpH P (aC #[75,75] 75 #[Sl o p q,Sl s t u]) (fun D E=>∃ v w x,D=Sl v w x/\wpH P (aD 56 1 #[(0,Sl v w x)]) (fun F G=>∃ y z A,F=Sl y z A/\wpH P (aC #[56,56] 56 #[Sl b c d,Sl y z A]) (fun H n=>∃ g i j,H=Sl g i j/\f [.slice g i j,I (B4 (a+1))] n/\l [.slice g i j,I (B4 (a+1))] n<l [.slice b c d,I a] e) G) E) m) e)
 (K (Sl b c d) e)
def B8u a b c(hvc:C4q prog a b c h K):aE prog A6v #[Sl a b c] h K:=
 fnk func161 { loops:=[(3,⟨[3,4],[],[N0,I 0],⟨(Lrg 3 17),[]⟩⟩)] } [] [] hvc
def C4o(P:aG)(f:OA)(d V:Nat)(h:aI)(K:VP):Prop:=
 ∃ q,Ax f q (0:Int) d <| ∃ N l O,Hd h (q.add (((0:Int)).toNat*1)) N l O<|aE P Tv #[I (l:Int),I (d:Int)] h (fun L M=>∃ j k r,L=Sl j k r/\∃ (g:LP) (m:LN),g [I 0] M/\
 ∀ a e,g [I a] e->Bd (a<(d:Int)) (∃ (i:LP) (n:LN),i [I 0] e/\
 ∀ b c,i [I b] c->∃ s,Ax f s a d <| ∃ Q o R,Hd c (s.add (a.toNat*1)) Q o R<|Bd (b<(o:Int)) (∃ t,Ax j t b k <| ∃ u v S,Hd c (t.add (b.toNat*1)) u v S <| ∃ w,Ax f w a d <| ∃ x y T,Hd c (w.add (a.toNat*1)) x y T <| ∃ z,Ax x z b y <| ∃ A B C D E F G H,Lq c (z.add (b.toNat*4)) A B C D E F G H <| ∃ J,Ax u J a v<|wpH P (aF 81 (Pt (J.add (a.toNat*4))) (Qv A B C D E F G H)) (fun _ p=>i [I (B4 (b+1))] p/\n [I (B4 (b+1))] p<n [I b] c) c)
 (g [I (B4 (a+1))] c/\m [I (B4 (a+1))] c<m [I a] e))
 (K (Sl j k r) e))
def B8s a b c(hvc:C4o prog a b c h K):aE prog A6u #[Sl a b c] h K:=
 fnk func83 { loops:=[(3,⟨[4],[],[I 0],⟨([4,5]++Lrg 13 28),[]⟩⟩),(6,⟨[5],[],[I 0],⟨([5]++Lrg 19 22),[]⟩⟩)] } [] [] hvc
def C0b(P:aG)(s:OA)(g g4:Nat)(o:OA)(i g5:Nat)(h:aI)(K:VP):Prop:=
 ∃ z,Ax o z (0:Int) i <| ∃ f5 t f6,Hd h (z.add (((0:Int)).toNat*1)) f5 t f6<|aE P Tv #[I (g:Int),I (t:Int)] h (fun f0 f1=>∃ l m A,f0=Sl l m A/\∃ (p:LP) (u:LN),p [I 0] f1/\
 ∀ b n,p [I b] n->Bd (b<(g:Int)) (∃ (j:LP) (k:LN),j [I 0] n/\
 ∀ a f,j [I a] f->Bd (a<(i:Int)) (∃ (q:LP) (v:LN),q [I 0] f/\
 ∀ d e,q [I d] e->∃ B,Ax o B (0:Int) i <| ∃ f7 w f8,Hd e (B.add (((0:Int)).toNat*1)) f7 w f8<|Bd (d<(w:Int)) (∃ C,Ax s C b g <| ∃ D E f9,Hd e (C.add (b.toNat*1)) D E f9 <| ∃ F,Ax D F a E <| ∃ G H J L M N O Q,Lq e (F.add (a.toNat*4)) G H J L M N O Q<|aE P Df #[Qv G H J L M N O Q] e (fun f2 c=>∃ R,f2=I R/\Br (R != 0) (∃ S,Ax l S b m <| ∃ T V g0,Hd c (S.add (b.toNat*1)) T V g0 <| ∃ W,Ax l W b m <| ∃ X Z g1,Hd c (W.add (b.toNat*1)) X Z g1 <| ∃ a0,Ax X a0 d Z <| ∃ a1 a2 a3 a4 a5 a6 a7 a8,Lq c (a0.add (d.toNat*4)) a1 a2 a3 a4 a5 a6 a7 a8 <| ∃ a9,Ax s a9 b g <| ∃ b0 b1 g2,Hd c (a9.add (b.toNat*1)) b0 b1 g2 <| ∃ b2,Ax b0 b2 a b1 <| ∃ b3 b4 b5 b6 b7 b8 b9 c0,Lq c (b2.add (a.toNat*4)) b3 b4 b5 b6 b7 b8 b9 c0 <| ∃ c1,Ax o c1 a i <| ∃ c2 c3 g3,Hd c (c1.add (a.toNat*1)) c2 c3 g3 <| ∃ c4,Ax c2 c4 d c3 <| ∃ c5 c6 c7 c8 c9 d0 d1 d2,Lq c (c4.add (d.toNat*4)) c5 c6 c7 c8 c9 d0 d1 d2<|aE P Qq #[Qv b3 b4 b5 b6 b7 b8 b9 c0,Qv c5 c6 c7 c8 c9 d0 d1 d2] c (fun f3 r=>∃ d3 d4 d5 d6 d7 d8 d9 e0,f3=Qv d3 d4 d5 d6 d7 d8 d9 e0/\c.le r/\aE P Qr #[Qv a1 a2 a3 a4 a5 a6 a7 a8,Qv d3 d4 d5 d6 d7 d8 d9 e0] r (fun f4 x=>∃ e1 e2 e3 e4 e5 e6 e7 e8,f4=Qv e1 e2 e3 e4 e5 e6 e7 e8/\r.le x/\∃ e9,Ax T e9 d V<|wpH P (aF 81 (Pt (e9.add (d.toNat*4))) (Qv e1 e2 e3 e4 e5 e6 e7 e8)) (fun _ y=>q [I (B4 (d+1))] y/\v [I (B4 (d+1))] y<v [I d] e) x)))
 (j [I (B4 (a+1))] c/\k [I (B4 (a+1))] c<k [I a] f)))
 (j [I (B4 (a+1))] e/\k [I (B4 (a+1))] e<k [I a] f))
 (p [I (B4 (b+1))] f/\u [I (B4 (b+1))] f<u [I b] n))
 (K (Sl l m A) n))
def B62 a b c d e f(hvc:C0b prog a b c d e f h K):aE prog Tu #[Sl a b c,Sl d e f] h K:=
 fnk func82 { loops:=[(3,⟨[6],[],[I 0],⟨([6,7,8]++Lrg 16 60),[]⟩⟩),(6,⟨[7],[],[I 0],⟨([7,8]++Lrg 22 54),[]⟩⟩),(9,⟨[8],[],[I 0],⟨([8]++Lrg 28 48),[]⟩⟩)] } [] [] hvc
def C72(P:aG)(a3:OA)(w a8:Nat)(a4:OA)(a5 a9:Nat)(h:aI)(K:VP):Prop:=
 ∃ (l:LP) (x:LN),l [I 0,.bool false,N0,.bool false,N0] h/\
 ∀ a c d e f g i j k b,l [I a,.bool c,.slice d e f,.bool g,.slice i j k] b->Bd (a<(w:Int)) (∃ y,Ax a3 y a w <| ∃ z A B C D E F G,Lq b (y.add (a.toNat*4)) z A B C D E F G <| ∃ H,Ax a4 H a a5 <| ∃ J L M N O Q R S,Lq b (H.add (a.toNat*4)) J L M N O Q R S<|aE P Qq #[Qv z A B C D E F G,Qv J L M N O Q R S] b (fun a6 m=>∃ T V W X Z a0 a1 a2,a6=Qv T V W X Z a0 a1 a2/\b.le m/\aE P Qr #[Qv c d e f g i j k,Qv T V W X Z a0 a1 a2] m (fun a7 n=>∃ o p q r s t u v,a7=Qv o p q r s t u v/\m.le n/\l [I (B4 (a+1)),.bool o,.slice p q r,.bool s,.slice t u v] n/\x [I (B4 (a+1)),.bool o,.slice p q r,.bool s,.slice t u v] n<x [I a,.bool c,.slice d e f,.bool g,.slice i j k] b)))
 (K (Qv c d e f g i j k) b)
def C2o a b c d e f(hvc:C72 prog a b c d e f h K):aE prog B3u #[Sl a b c,Sl d e f] h K:=
 fnk func59 { loops:=[(3,⟨[6],[(5,4)],[I 0,.bool false,N0,.bool false,N0],⟨([6]++Lrg 8 17),[5]⟩⟩)] } [4,5] [] hvc
def C73(P:aG)(x:OA)(c F:Nat)(y:OA)(z A:Nat)(h:aI)(K:VP):Prop:=
 wpH P (aH 75 (I (c:Int)) (I (c:Int))) (fun B C=>∃ e f j,B=Sl e f j/\∃ (d:LP) (g:LN),d [I 0] C/\
 ∀ a b,d [I a] b->Bd (a<(c:Int)) (∃ k,Ax x k a c <| ∃ l m n,Hd b (k.add (a.toNat*1)) l m n<|aE P B3u #[Sl l m n,Sl y z A] b (fun D E=>∃ o p q r s t u v,D=Qv o p q r s t u v/\∃ w,Ax e w a f<|wpH P (aF 81 (Pt (w.add (a.toNat*4))) (Qv o p q r s t u v)) (fun _ i=>d [I (B4 (a+1))] i/\g [I (B4 (a+1))] i<g [I a] b) E))
 (K (Sl e f j) b)) h
def C2p a b c d e f(hvc:C73 prog a b c d e f h K):aE prog A8v #[Sl a b c,Sl d e f] h K:=
 fnk func47 { loops:=[(3,⟨[6],[],[I 0],⟨([6]++Lrg 10 15),[]⟩⟩)] } [] [] hvc
def Lx(P:aG)(d:OA)(e i:Nat)(b2:Int)(b3:LP)(j:LN)(c:Int)(b4:Bool)(b5:OA)(b6 b7:Nat)(b8:Bool)(b9:OA)(c0 c1:Nat)(c2:aI)(c3:aI):Prop:=
 ∃ (f:LP) (k:LN),f [I b2] c2/\
 ∀ b a,f [I b] a->∃ o,Ax d o c e <| ∃ c6 l c7,Hd a (o.add (c.toNat*1)) c6 l c7<|Bd (b<(l:Int)) (∃ p,Ax d p c e <| ∃ q r c8,Hd a (p.add (c.toNat*1)) q r c8 <| ∃ s,Ax d s c e <| ∃ t u c9,Hd a (s.add (c.toNat*1)) t u c9 <| ∃ v,Ax t v b u <| ∃ w x y z A B C D,Lq a (v.add (b.toNat*4)) w x y z A B C D <| ∃ E,Ax d E (i:Int) e <| ∃ F G d0,Hd a (E.add (((i:Int)).toNat*1)) F G d0 <| ∃ H,Ax F H b G <| ∃ J L M N O Q R S,Lq a (H.add (b.toNat*4)) J L M N O Q R S<|aE P Qq #[Qv b4 b5 b6 b7 b8 b9 c0 c1,Qv J L M N O Q R S] a (fun c4 g=>∃ T V W X Z a0 a1 a2,c4=Qv T V W X Z a0 a1 a2/\a.le g/\aE P A1a #[Qv w x y z A B C D,Qv T V W X Z a0 a1 a2] g (fun c5 m=>∃ a3 a4 a5 a6 a7 a8 a9 b0,c5=Qv a3 a4 a5 a6 a7 a8 a9 b0/\g.le m/\∃ b1,Ax q b1 b r<|wpH P (aF 81 (Pt (b1.add (b.toNat*4))) (Qv a3 a4 a5 a6 a7 a8 a9 b0)) (fun _ n=>f [I (B4 (b+1))] n/\k [I (B4 (b+1))] n<k [I b] a) m)))
 (b3 [I (B4 (c+1))] a/\j [I (B4 (c+1))] a<j [I c] c3)
def Gx(P:aG)(u:OA)(g:Nat)(S:LP)(v:LN)(w:OA)(f x:Nat)(c:Int)(T:Bool)(V:OA)(W X:Nat)(Z:Bool)(a0:OA)(a1 a2:Nat)(y:Bool)(z:OA)(A B:Nat)(C:Bool)(D:OA)(E F:Nat)(a3:aI)(a4:aI):Prop:=
 ∃ (d:LP) (e:LN),d [I 0] a4/\
 ∀ a b,d [I a] b->Bd (a<(g:Int)) (∃ H,Ax u H a g <| ∃ J L a9,Hd b (H.add (a.toNat*1)) J L a9 <| ∃ M,Ax J M c L <| ∃ j k l m n o p q,Lq b (M.add (c.toNat*4)) j k l m n o p q<|Br (a==(f:Int)) (d [I (B4 (a+1))] b/\e [I (B4 (a+1))] b<e [I a] b)
 (aE P Df #[Qv j k l m n o p q] b (fun a5 i=>∃ N,a5=I N/\Br (N==0) (d [I (B4 (a+1))] i/\e [I (B4 (a+1))] i<e [I a] b)
 (Lx P u g f c d e a j k l m n o p q i b))))
 (wpH P (aD 70 1 #[(0,I c)]) (fun a6 a7=>∃ O Q R,a6=Sl O Q R/\wpH P (aC #[70,70] 70 #[Sl w f x,Sl O Q R]) (fun a8 G=>∃ r s t,a8=Sl r s t/\S [.slice r s t,I (B4 (c+1)),.bool y,.slice z A B,.bool C,.slice D E F] G/\v [.slice r s t,I (B4 (c+1)),.bool y,.slice z A B,.bool C,.slice D E F] G<v [.slice w f x,I c,.bool T,.slice V W X,.bool Z,.slice a0 a1 a2] a3) a7) b)
def Ly(P:aG)(d:OA)(e:Nat)(M:LP)(N:LN)(O:OA)(c Q:Nat)(R:Int)(S:Bool)(T:OA)(V W:Nat)(X:Bool)(Z:OA)(a0 a1:Nat)(a2:Bool)(a3:OA)(a4 a5:Nat)(a6:Bool)(a7:OA)(a8 a9:Nat)(b0:Bool)(b1:OA)(b2 b3:Nat)(b4:Bool)(b5:OA)(b6 b7:Nat)(b8:aI)(b9:aI):Prop:=
 ∃ (f:LP) (g:LN),f [I 0] b8/\
 ∀ a b,f [I a] b->∃ l,Ax d l (c:Int) e <| ∃ c1 i c2,Hd b (l.add (((c:Int)).toNat*1)) c1 i c2<|Bd (a<(i:Int)) (∃ m,Ax d m (c:Int) e <| ∃ n o c3,Hd b (m.add (((c:Int)).toNat*1)) n o c3 <| ∃ p,Ax d p (c:Int) e <| ∃ q r c4,Hd b (p.add (((c:Int)).toNat*1)) q r c4 <| ∃ s,Ax q s a r <| ∃ t u v w x y z A,Lq b (s.add (a.toNat*4)) t u v w x y z A<|aE P A1c #[Qv t u v w x y z A,Qv a2 a3 a4 a5 a6 a7 a8 a9] b (fun c0 j=>∃ B C D E F G H J,c0=Qv B C D E F G H J/\b.le j/\∃ L,Ax n L a o<|wpH P (aF 81 (Pt (L.add (a.toNat*4))) (Qv B C D E F G H J)) (fun _ k=>f [I (B4 (a+1))] k/\g [I (B4 (a+1))] k<g [I a] b) j))
 (Gx P d e M N O c Q R S T V W X Z a0 a1 b0 b1 b2 b3 b4 b5 b6 b7 b9 b)
def Mc(P:aG)(m:OA)(n:Nat)(A:LP)(B:LN)(C:OA)(a D:Nat)(b:Int)(E:Bool)(F:OA)(G H:Nat)(J:Bool)(L:OA)(M N:Nat)(O:Bool)(Q:OA)(R S:Nat)(T:Bool)(V:OA)(W X:Nat)(Z:aI)(c:aI):Prop:=
 ∃ o,Ax m o (a:Int) n <| ∃ p q a2,Hd c (o.add (((a:Int)).toNat*1)) p q a2 <| ∃ r,Ax p r b q <| ∃ d e f g i j k l,Lq c (r.add (b.toNat*4)) d e f g i j k l<|aE P Qq #[Qv O Q R S T V W X,Qv d e f g i j k l] c (fun a0 a1=>∃ s t u v w x y z,a0=Qv s t u v w x y z/\Ly P m n A B C a D b E F G H J L M N d e f g i j k l s t u v w x y z a1 Z)
def Md(P:aG)(e:OA)(b:Nat)(t:LP)(r:LN)(f:OA)(a g:Nat)(i:Int)(j:Bool)(k:OA)(l m:Nat)(n:Bool)(o:OA)(p q:Nat)(c:Int)(u:aI)(d:aI):Prop:=
 Br (c==(b:Int)) (t [.slice f a g,I (B4 (i+1)),.bool false,N0,.bool false,N0] d/\r [.slice f a g,I (B4 (i+1)),.bool false,N0,.bool false,N0] d<r [.slice f a g,I i,.bool j,.slice k l m,.bool n,.slice o p q] u)
 (∃ (s:LP),(Br (c != (a:Int)) (∃ v,Ax e v (a:Int) b <| ∃ w x y,Hd d (v.add (((a:Int)).toNat*1)) w x y <| ∃ z,Ax e z c b <| ∃ A B C,Hd d (z.add (c.toNat*1)) A B C <| ∃ D,Ax e D c b<|wpH P (aF 75 (Pt (D.add (c.toNat*1))) (.slice w x y)) (fun _ a1=>∃ E,Ax e E (a:Int) b<|wpH P (aF 75 (Pt (E.add (((a:Int)).toNat*1))) (.slice A B C)) (fun _ a2=>aE P A1b #[Qv j k l m n o p q] a2 (fun a3 a4=>∃ F G H J L M N O,a3=Qv F G H J L M N O/\s [.bool F,.slice G H J,.bool L,.slice M N O] a4)) a1) d)
 (s [.bool j,.slice k l m,.bool n,.slice o p q] d))/\
 ∀ Q R S T V W X Z a0,s [.bool Q,.slice R S T,.bool V,.slice W X Z] a0->Mc P e b t r f a g i j k l m n o p q Q R S T V W X Z u a0)
def A9j(P:aG)(a1:OA)(a2 a3:Nat)(t:Int)(h:aI)(K:VP):Prop:=
 aE P A6v #[Sl a1 a2 a3] h (fun a5 a6=>∃ d b j,a5=Sl d b j/\aE P C5i #[I 1] a6 (fun a7 a8=>∃ z A B C D E F G,a7=Qv z A B C D E F G/\∃ (u:LP) (a4:LN),u [N0,I 0,.bool z,.slice A B C,.bool D,.slice E F G] a8/\
 ∀ f a g k l m n o p q r s e,u [.slice f a g,I k,.bool l,.slice m n o,.bool p,.slice q r s] e->Bd (k<t) (Bd ((a:Int)<(b:Int)) (∃ (v:LP),(∃ (w:LP) (y:LN),w [I (a:Int)] e/\
 ∀ c i,w [I c] i->Bd (c<(b:Int)) (∃ H,Ax d H c b <| ∃ J L b0,Hd i (H.add (c.toNat*1)) J L b0 <| ∃ M,Ax J M k L <| ∃ N O Q R S T V W,Lq i (M.add (k.toNat*4)) N O Q R S T V W<|aE P Df #[Qv N O Q R S T V W] i (fun a9 x=>∃ X,a9=I X/\Br (X==0) (w [I (B4 (c+1))] x/\y [I (B4 (c+1))] x<y [I c] i)
 (v [I c] x)))
 (v [I c] i))/\
 ∀ Z a0,v [I Z] a0->Md P d b u a4 f a g k l m n o p q r s Z e a0)
 (Bd ((a:Int)<t) (K (.tuple #[Sl d b j,Sl f a g,Qv false none 0 0 false none 0 0]) e)
 (K (.tuple #[Sl d b j,Sl f a g,Qv l m n o p q r s]) e)))
 (Bd ((a:Int)<t) (K (.tuple #[Sl d b j,Sl f a g,Qv false none 0 0 false none 0 0]) e)
 (K (.tuple #[Sl d b j,Sl f a g,Qv l m n o p q r s]) e))))
def A7o a b c d(hvc:A9j prog a b c d h K):aE prog Qw #[Sl a b c,I d] h K:=
 fnk func132 ⟨[(5,⟨[8,10],[(9,4)],[N0,I 0,.bool false,N0,.bool false,N0],⟨([8]++Lrg 10 8++Lrg 21 148),[9,13,16]⟩⟩),(9,⟨[12],[],[I 0],⟨([12]++Lrg 36 17),[]⟩⟩),(19,⟨[14],[],[I 0],⟨([14]++Lrg 87 24),[]⟩⟩),(23,⟨[15],[],[I 0],⟨([15,16,17]++Lrg 111 54),[16]⟩⟩),(28,⟨[17],[],[I 0],⟨([17]++Lrg 133 32),[]⟩⟩)],[(11,⟨[12],[],[I 0],⟨([12]++Lrg 36 17),[]⟩⟩),(16,⟨[],[(9,4)],[.bool false,N0,.bool false,N0],⟨(Lrg 58 19),[9]⟩⟩)],[],[],[]⟩ [6,9,13,16] [] hvc
def A5c(P:aG)(c4:OA)(G w5:Nat)(q8:OA)(q9 w6:Nat)(h:aI)(K:VP):Prop:=
 ∃ f5,Ax c4 f5 (0:Int) G <| ∃ w1 j w2,Hd h (f5.add (((0:Int)).toNat*1)) w1 j w2 <| ∃ (i:LP) (f:LN),i [N0,I 0] h/\
 ∀ c d e a b,i [.slice c d e,I a] b->Bd (a<(G:Int)) (∃ f6,Ax c4 f6 a G <| ∃ k l m,Hd b (f6.add (a.toNat*1)) k l m <| ∃ u,Ax q8 u a q9<|(∃ v w x y z A B C,Lq b (u.add (a.toNat*4)) v w x y z A B C<|(wpH P (aD 75 0 #[]) (fun s0 t=>∃ Q R S,s0=Sl Q R S/\b.le t/\(wpH P (aC #[75,75] 75 #[Sl Q R S,Sl k l m]) (fun s1 c8=>∃ f7 f8 f9,s1=Sl f7 f8 f9/\wpH P (aD 75 1 #[(0,Qv v w x y z A B C)]) (fun s2 c9=>∃ g0 g1 g2,s2=Sl g0 g1 g2/\c8.le c9/\wpH P (aC #[75,75] 75 #[Sl f7 f8 f9,Sl g0 g1 g2]) (fun s3 d0=>∃ g3 g4 g5,s3=Sl g3 g4 g5/\wpH P (aD 56 1 #[(0,Sl g3 g4 g5)]) (fun s4 d1=>∃ g6 g7 g8,s4=Sl g6 g7 g8/\d0.le d1/\wpH P (aC #[56,56] 56 #[Sl c d e,Sl g6 g7 g8]) (fun s5 d2=>∃ T V W,s5=Sl T V W/\i [.slice T V W,I (B4 (a+1))] d2/\f [.slice T V W,I (B4 (a+1))] d2<f [.slice c d e,I a] b) d1) d0) c9) c8) t)/\(wpH P (aD 75 1 #[(0,Qv v w x y z A B C)]) (fun s6 d3=>∃ g9 h0 h1,s6=Sl g9 h0 h1/\t.le d3/\wpH P (aC #[75,75] 75 #[Sl Q R S,Sl k l m]) (fun s7 s8=>∃ h2 h3 h4,s7=Sl h2 h3 h4/\wpH P (aC #[75,75] 75 #[Sl h2 h3 h4,Sl g9 h0 h1]) (fun s9 d4=>∃ h5 h6 h7,s9=Sl h5 h6 h7/\wpH P (aD 56 1 #[(0,Sl h5 h6 h7)]) (fun t0 d5=>∃ h8 h9 i0,t0=Sl h8 h9 i0/\d4.le d5/\wpH P (aC #[56,56] 56 #[Sl c d e,Sl h8 h9 i0]) (fun t1 d6=>∃ X Z a0,t1=Sl X Z a0/\i [.slice X Z a0,I (B4 (a+1))] d6/\f [.slice X Z a0,I (B4 (a+1))] d6<f [.slice c d e,I a] b) d5) d4) s8) d3) t)) b)/\(wpH P (aD 75 1 #[(0,Qv v w x y z A B C)]) (fun t2 M=>∃ i1 i2 i3,t2=Sl i1 i2 i3/\b.le M/\wpH P (aD 75 0 #[]) (fun t3 d7=>∃ i4 i5 i6,t3=Sl i4 i5 i6/\M.le d7/\wpH P (aC #[75,75] 75 #[Sl i4 i5 i6,Sl k l m]) (fun t4 t5=>∃ i7 i8 i9,t4=Sl i7 i8 i9/\wpH P (aC #[75,75] 75 #[Sl i7 i8 i9,Sl i1 i2 i3]) (fun t6 d8=>∃ j0 j1 j2,t6=Sl j0 j1 j2/\wpH P (aD 56 1 #[(0,Sl j0 j1 j2)]) (fun t7 d9=>∃ j3 j4 j5,t7=Sl j3 j4 j5/\d8.le d9/\wpH P (aC #[56,56] 56 #[Sl c d e,Sl j3 j4 j5]) (fun t8 e0=>∃ a1 a2 a3,t8=Sl a1 a2 a3/\i [.slice a1 a2 a3,I (B4 (a+1))] e0/\f [.slice a1 a2 a3,I (B4 (a+1))] e0<f [.slice c d e,I a] b) d9) d8) t5) d7) M) b))/\(wpH P (aD 75 0 #[]) (fun t9 p=>∃ D E F,t9=Sl D E F/\b.le p/\(∃ a4 a5 a6 a7 a8 a9 b0 b1,Lq p (u.add (a.toNat*4)) a4 a5 a6 a7 a8 a9 b0 b1<|(wpH P (aC #[75,75] 75 #[Sl D E F,Sl k l m]) (fun u0 e1=>∃ j6 j7 j8,u0=Sl j6 j7 j8/\wpH P (aD 75 1 #[(0,Qv a4 a5 a6 a7 a8 a9 b0 b1)]) (fun u1 e2=>∃ j9 k0 k1,u1=Sl j9 k0 k1/\e1.le e2/\wpH P (aC #[75,75] 75 #[Sl j6 j7 j8,Sl j9 k0 k1]) (fun u2 e3=>∃ k2 k3 k4,u2=Sl k2 k3 k4/\wpH P (aD 56 1 #[(0,Sl k2 k3 k4)]) (fun u3 e4=>∃ k5 k6 k7,u3=Sl k5 k6 k7/\e3.le e4/\wpH P (aC #[56,56] 56 #[Sl c d e,Sl k5 k6 k7]) (fun u4 e5=>∃ b2 b3 b4,u4=Sl b2 b3 b4/\i [.slice b2 b3 b4,I (B4 (a+1))] e5/\f [.slice b2 b3 b4,I (B4 (a+1))] e5<f [.slice c d e,I a] b) e4) e3) e2) e1) p)/\(wpH P (aD 75 1 #[(0,Qv a4 a5 a6 a7 a8 a9 b0 b1)]) (fun u5 e6=>∃ k8 k9 l0,u5=Sl k8 k9 l0/\p.le e6/\wpH P (aC #[75,75] 75 #[Sl D E F,Sl k l m]) (fun u6 u7=>∃ l1 l2 l3,u6=Sl l1 l2 l3/\wpH P (aC #[75,75] 75 #[Sl l1 l2 l3,Sl k8 k9 l0]) (fun u8 e7=>∃ l4 l5 l6,u8=Sl l4 l5 l6/\wpH P (aD 56 1 #[(0,Sl l4 l5 l6)]) (fun u9 e8=>∃ l7 l8 l9,u9=Sl l7 l8 l9/\e7.le e8/\wpH P (aC #[56,56] 56 #[Sl c d e,Sl l7 l8 l9]) (fun v0 e9=>∃ b5 b6 b7,v0=Sl b5 b6 b7/\i [.slice b5 b6 b7,I (B4 (a+1))] e9/\f [.slice b5 b6 b7,I (B4 (a+1))] e9<f [.slice c d e,I a] b) e8) e7) u7) e6) p))/\(wpH P (aC #[75,75] 75 #[Sl D E F,Sl k l m]) (fun v1 N=>∃ m0 m1 m2,v1=Sl m0 m1 m2/\∃ m3 m4 m5 m6 m7 m8 m9 n0,Lq N (u.add (a.toNat*4)) m3 m4 m5 m6 m7 m8 m9 n0<|wpH P (aD 75 1 #[(0,Qv m3 m4 m5 m6 m7 m8 m9 n0)]) (fun v2 f0=>∃ n1 n2 n3,v2=Sl n1 n2 n3/\N.le f0/\wpH P (aC #[75,75] 75 #[Sl m0 m1 m2,Sl n1 n2 n3]) (fun v3 f1=>∃ n4 n5 n6,v3=Sl n4 n5 n6/\wpH P (aD 56 1 #[(0,Sl n4 n5 n6)]) (fun v4 f2=>∃ n7 n8 n9,v4=Sl n7 n8 n9/\f1.le f2/\wpH P (aC #[56,56] 56 #[Sl c d e,Sl n7 n8 n9]) (fun v5 f3=>∃ b8 b9 c0,v5=Sl b8 b9 c0/\i [.slice b8 b9 c0,I (B4 (a+1))] f3/\f [.slice b8 b9 c0,I (B4 (a+1))] f3<f [.slice c d e,I a] b) f2) f1) f0) N) p)) b))
 (aE P Qw #[Sl c d e,I (j:Int)] b (fun v6 v7=>∃ (H:OA) (r r0:Nat) (c5:OA) (s r1:Nat) (r2:Bool) (r3:OA) (r4 r5:Nat) (r6:Bool) (r7:OA) (r8 r9:Nat),v6= .tuple #[Sl H r r0,Sl c5 s r1,Qv r2 r3 r4 r5 r6 r7 r8 r9]/\∃ (J:LP) (c6:LN),J [I (s:Int)] v7/\
 ∀ n q,J [I n] q->Bd (n<(r:Int)) (∃ o0,Ax H o0 n r <| ∃ o1 o2 w3,Hd q (o0.add (n.toNat*1)) o1 o2 w3 <| ∃ o3,Ax o1 o3 (j:Int) o2 <| ∃ o4 o5 o6 o7 o8 o9 p0 p1,Lq q (o3.add (((j:Int)).toNat*4)) o4 o5 o6 o7 o8 o9 p0 p1<|aE P Df #[Qv o4 o5 o6 o7 o8 o9 p0 p1] q (fun v8 O=>∃ p2,v8=I p2/\Br (p2 != 0) (K (.tuple #[Sl none 0 0,.bool false]) O)
 (J [I (B4 (n+1))] O/\c6 [I (B4 (n+1))] O<c6 [I n] q)))
 (wpH P (aH 75 (I (j:Int)) (I (j:Int))) (fun v9 w0=>∃ c1 c2 p3,v9=Sl c1 c2 p3/\∃ (L:LP) (c7:LN),L [I 0] w0/\
 ∀ g o,L [I g] o->Bd (g<(s:Int)) (∃ p4,Ax c5 p4 g s <| ∃ c3,o.cell? (p4.add (g.toNat*1))=some (I c3)/\∃ p5,Ax H p5 g r <| ∃ p6 p7 w4,Hd o (p5.add (g.toNat*1)) p6 p7 w4 <| ∃ p8,Ax p6 p8 (j:Int) p7 <| ∃ p9 q0 q1 q2 q3 q4 q5 q6,Lq o (p8.add (((j:Int)).toNat*4)) p9 q0 q1 q2 q3 q4 q5 q6 <| ∃ q7,Ax c1 q7 c3 c2<|wpH P (aF 81 (Pt (q7.add (c3.toNat*4))) (Qv p9 q0 q1 q2 q3 q4 q5 q6)) (fun _ f4=>L [I (B4 (g+1))] f4/\c7 [I (B4 (g+1))] f4<c7 [I g] o) o)
 (K (.tuple #[Sl c1 c2 p3,.bool true]) o)) q)))
def A5b a b c d e f(hvc:A5c prog a b c d e f h K):aE prog Lp #[Sl a b c,Sl d e f] h K:=
 fnk func126 ⟨[(4,⟨[7,8],[],[N0,I 0],⟨([7,8]++Lrg 19 21),[]⟩⟩),(9,⟨[12],[],[I 0],⟨([4,5,12]++Lrg 49 15),[]⟩⟩),(15,⟨[14],[],[I 0],⟨([14]++Lrg 66 19),[]⟩⟩)],[],[(6,([0,2,3,4,5,7,8,9,10,1,6,11,12,13,14,15],[]))],[],[(6,[(1,[11]),(6,[11]),(10,[1,6])])]⟩ [11] [1000000000] hvc
