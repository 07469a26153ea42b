/- A part. -/
import Derived.Test.YtmbfcbbkbefgfaaGreatDoorG13
import Derived.Test.YtmbfcbbkbefgfaaGreatDoorG10
import Derived.Test.YtmbfcbbkbefgfaaGreatDoorG26
import Derived.Test.YtmbfcbbkbefgfaaGreatDoorG09
open Go.Proofs.Tryz
set_option linter.all false
open _root_.Go.Addr renaming add->aJ
open _root_.Go.Builtin renaming append_->aE
open _root_.Go.Instr renaming storeAt->aD,buildSlice->aF,makeSlice->aH,alloc->aK
open _root_.Go renaming Program->aG
open _root_.Go.Proofs.YtmbfcbbkbefgfaaGreatDoor renaming FCall->aC,Heap->aI
namespace Go.Proofs.YtmbfcbbkbefgfaaGreatDoor
open Go
set_option maxRecDepth 100000
variable {h:aI} {K:VP}
abbrev Fc:Nat:=100
abbrev Fb:Nat:=87
abbrev J3:Nat:=235
abbrev Ir:Nat:=201
abbrev Tm:Nat:=211
abbrev Gv:Nat:=233
abbrev Qu:Nat:=156
abbrev A1i:Nat:=175
abbrev Iv:Nat:=120
abbrev C75:Nat:=98
abbrev C3n:Nat:=179
abbrev A92:Nat:=97
abbrev Tp:Nat:=101
abbrev Do:Nat:=182
abbrev Fd:Nat:=176
abbrev C3m:Nat:=95
abbrev A1j:Nat:=124
abbrev Ox:Nat:=214
abbrev Gt:Nat:=213
abbrev W6:Nat:=177
abbrev Tn:Nat:=178
abbrev Gu:Nat:=163
abbrev Oy:Nat:=165
abbrev A74:Nat:=237
abbrev A1n:Nat:=246
abbrev A1o:Nat:=172
abbrev Oz:Nat:=174
abbrev To:Nat:=234
abbrev Iw:Nat:=276
abbrev C6k:Nat:=61
abbrev A71:Nat:=84
abbrev A1l:Nat:=115
abbrev C6i:Nat:=162
abbrev A73:Nat:=161
abbrev C6j:Nat:=83
abbrev C5y:Nat:=82
abbrev A94:Nat:=59
abbrev A95:Nat:=47
abbrev Kn:Nat:=132
abbrev C4i:Nat:=99
abbrev A72:Nat:=57
abbrev C24:Nat:=126
abbrev C5x:Nat:=31
abbrev B6w:Nat:=30
abbrev C3o:Nat:=80
abbrev C23:Nat:=29
abbrev C76:Nat:=40
abbrev Lk:Nat:=265
abbrev Tw:Nat:=225
abbrev Qa:Nat:=135
abbrev C63:Nat:=41
abbrev C62:Nat:=235
abbrev Fy:Nat:=70
abbrev F2:Nat:=3
def C3y:SliceT prog Fy F2 (I 0) 1 8:=⟨by kernel_rfl,by kernel_rfl,rfl,by decide⟩
def B2h:prog.cellsOf F2=1/\(prog.info? F2).isSome=true:=⟨by kernel_rfl,by kernel_rfl⟩
abbrev V1:Nat:=128
abbrev K0:Nat:=145
def B2g:SliceT prog V1 K0 (Qv false none 0 0 false none 0 0) 4 64:=⟨by kernel_rfl,by kernel_rfl,rfl,by decide⟩
def Tc:prog.cellsOf K0=4/\(prog.info? K0).isSome=true:=⟨by kernel_rfl,by kernel_rfl⟩
abbrev Rn:Nat:=220
abbrev Fu:Nat:=138
def tZs:SliceT prog Rn Fu (Zv false none 0 0) 2 32:=⟨by kernel_rfl,by kernel_rfl,rfl,by decide⟩
def A08:prog.cellsOf Fu=2/\(prog.info? Fu).isSome=true:=⟨by kernel_rfl,by kernel_rfl⟩
abbrev A5y:Nat:=56
abbrev En:Nat:=75
def C68:SliceT prog A5y En (N0) 1 24:=⟨by kernel_rfl,by kernel_rfl,rfl,by decide⟩
def A89:prog.cellsOf En=1/\(prog.info? En).isSome=true:=⟨by kernel_rfl,by kernel_rfl⟩
abbrev Nl:Nat:=231
abbrev Yc:Nat:=235
def C67:SliceT prog Nl Yc (.agg #[Sl none 0 0,.bool false,Sl none 0 0]) 3 56:=⟨by kernel_rfl,by kernel_rfl,rfl,by decide⟩
abbrev B1z:Nat:=314
abbrev Fw:Nat:=38
def C3x:SliceT prog B1z Fw (N0) 1 24:=⟨by kernel_rfl,by kernel_rfl,rfl,by decide⟩
def A9l(P:aG)(x:OA)(c B:Nat)(h:aI)(K:VP):Prop:=
 wpH P (aH 128 (I (c:Int)) (I (c:Int))) (fun y z=>∃ e f u,y=Sl e f u/\∃ (d:LP) (g:LN),d [I 0] z/\
 ∀ a b,d [I a] b->Bd (a<(c:Int)) (∃ v,Ax x v a c <| ∃ (i:ByteArray),b.cell? (v.add (a.toNat*1))=some (.string i)/\aC P A1b #[.string i] b (fun A s=>∃ (j:Bool) (k:OA) (l m:Nat) (n:Bool) (o:OA) (p q:Nat) (r:Bool),A= .tuple #[Qv j k l m n o p q,.bool r]/\Br (!r) (K (.tuple #[Sl none 0 0,.bool false]) s)
 (∃ w,Ax e w a f<|wpH P (aD 145 (Pt (w.add (a.toNat*4))) (Qv j k l m n o p q)) (fun _ t=>d [I (B5 (a+1))] t/\g [I (B5 (a+1))] t<g [I a] b) s)))
 (K (.tuple #[Sl e f u,.bool true]) b)) h
def A7n a b c(hvc:A9l prog a b c h K):aC prog Fc #[Sl a b c] h K:=
 fnk func100 { loops:=[(3,⟨[14],[],[I 0],⟨([2,3,5,6,7,8]++Lrg 14 17),[7]⟩⟩)] } [7] [] hvc
def A9j(P:aG)(v:OA)(c A:Nat)(h:aI)(K:VP):Prop:=
 wpH P (aH 38 (I (c:Int)) (I (c:Int))) (fun w x=>∃ e f k,w=Sl e f k/\∃ (d:LP) (g:LN),d [I 0] x/\
 ∀ a b,d [I a] b->Bd (a<(c:Int)) (∃ l,Ax v l a c <| ∃ m n o p q r s t,Lq b (l.add (a.toNat*4)) m n o p q r s t<|aC P W4 #[Qv m n o p q r s t] b (fun y z=>∃ (i:ByteArray),y= .string i/\∃ u,Ax e u a f<|wpH P (aD 9 (Pt (u.add (a.toNat*1))) (.string i)) (fun _ j=>d [I (B5 (a+1))] j/\g [I (B5 (a+1))] j<g [I a] b) z))
 (K (Sl e f k) b)) h
def A7l a b c(hvc:A9j prog a b c h K):aC prog Fb #[Sl a b c] h K:=
 fnk func87 { loops:=[(3,⟨[11],[],[I 0],⟨([4,5]++Lrg 11 11),[5]⟩⟩)] } [5] [] hvc
def Dx(P:aG)(C:OA)(t O:Nat)(h:aI)(K:VP):Prop:=
 aC P Rs #[I 1] h (fun D E=>∃ x y z A,D=Zv x y z A/\∃ (i:LP) (g:LN),i [I 0,.bool x,.slice y z A] E/\
 ∀ a b c d e f,i [I a,.bool b,.slice c d e] f->Bd (a<(t:Int)) (∃ B,Ax C B a t <| ∃ J L M N j k l m,Lq f (B.add (a.toNat*4)) J L M N j k l m<|aC P E8 #[Zv j k l m] f (fun F n=>∃ (u:Bool),F= .bool u/\Br (!u) (aC P A18 #[Zv j k l m,Zv b c d e] n (fun G o=>∃ (v:Bool),G= .bool v/\Br (!v) (aC P B4a #[Zv b c d e,Zv j k l m] o (fun H w=>∃ p q r s,H=Zv p q r s/\i [I (B5 (a+1)),.bool p,.slice q r s] w/\g [I (B5 (a+1)),.bool p,.slice q r s] w<g [I a,.bool b,.slice c d e] f))
 (i [I (B5 (a+1)),.bool b,.slice c d e] o/\g [I (B5 (a+1)),.bool b,.slice c d e] o<g [I a,.bool b,.slice c d e] f)))
 (i [I (B5 (a+1)),.bool b,.slice c d e] n/\g [I (B5 (a+1)),.bool b,.slice c d e] n<g [I a,.bool b,.slice c d e] f)))
 (K (Zv b c d e) f))
def Jr a b c(hvc:Dx prog a b c h K):aC prog J3 #[Sl a b c] h K:=
 fnk func235 { loops:=[(3,⟨[9],[(3,2)],[I 0,.bool false,N0],⟨([5]++Lrg 9 20),[3,5]⟩⟩)] } [2,3,5] [] hvc
def B5x(P:aG)(c:Bool)(d:OA)(e f:Nat)(g:Bool)(i:OA)(j k:Nat)(l:Bool)(m:OA)(n o:Nat)(h:aI)(K:VP):Prop:=
 aC P E8 #[Zv g i j k] h (fun D a=>∃ (p:Bool),D= .bool p/\Br p (aC P Bq #[Zv c d e f,Zv l m n o] a (fun E F=>∃ r s t u,E=Zv r s t u/\K (Zv r s t u) F))
 (aC P Fa #[Zv l m n o,Zv g i j k] a (fun G b=>∃ v w x y,G=Zv v w x y/\a.le b/\aC P Bq #[Zv c d e f,Zv v w x y] b (fun H q=>∃ z A B C,H=Zv z A B C/\b.le q/\K (Zv z A B C) q))))
def B1a a b c d e f g i j k l m(hvc:B5x prog a b c d e f g i j k l m h K):aC prog Ir #[Qv a b c d e f g i,Zv j k l m] h K:=
 fnk func201 an0 [2,3,4] [] hvc
def C0s(P:aG)(n:Int)(o:Int)(f:OA)(c p:Nat)(h:aI)(K:VP):Prop:=
 aC P Gv #[Mv n o f c p] h (fun q l=>∃ (g:Bool),q= .bool g/\Br (!g) (K (.bool false) l)
 (∃ (d:LP) (i:LN),d [I 0] l/\
 ∀ a b,d [I a] b->Bd (a<(c:Int)) (∃ m,Ax f m a c <| ∃ (j:ByteArray),b.cell? (m.add (a.toNat*1))=some (.string j)/\aC P Dl #[.string j] b (fun r e=>∃ (k:Bool),r= .bool k/\Br (!k) (K (.bool false) e)
 (d [I (B5 (a+1))] e/\i [I (B5 (a+1))] e<i [I a] b)))
 (K (.bool true) b)))
def B6e a b c d e(hvc:C0s prog a b c d e h K):aC prog Tm #[Mv a b c d e] h K:=
 fnk func211 { loops:=[(4,⟨[11],[],[I 0],⟨([2,4]++Lrg 11 8),[]⟩⟩)] } [1] [] hvc
def A5j(P:aG)(a:Int)(b:Int)(d:OA)(c e:Nat)(h:aI)(K:VP):Prop:=
 Bd ((1:Int)<=a) (Bd (a<=64) (Bd ((1:Int)<=b) (Bd (b<=64) (K (.bool ((c:Int)==(B5 (a*b)))) h)
 (K (.bool false) h))
 (K (.bool false) h))
 (K (.bool false) h))
 (K (.bool false) h)
def A5i a b c d e(hvc:A5j prog a b c d e h K):aC prog Gv #[Mv a b c d e] h K:=
 fnk func233 an0 [1] [] hvc
def C5n(P:aG)(k:Int)(l:Int)(a:OA)(b c:Nat)(h:aI)(K:VP):Prop:=
 aC P Gv #[Mv k l a b c] h (fun m j=>∃ (d:Bool),m= .bool d/\Br (!d) (K (.tuple #[Sl none 0 0,.bool false]) j)
 (aC P Fc #[Sl a b c] j (fun n o=>∃ (e:OA) (f g:Nat) (i:Bool),n= .tuple #[Sl e f g,.bool i]/\K (.tuple #[Sl e f g,.bool i]) o)))
def B9g a b c d e(hvc:C5n prog a b c d e h K):aC prog Qu #[Mv a b c d e] h K:=
 fnk func156 an0 [1] [] hvc
def C0r(P:aG)(d:Int)(e:Int)(f:OA)(g i:Nat)(h:aI)(K:VP):Prop:=
 aC P Fb #[Sl f g i] h (fun j k=>∃ a b c,j=Sl a b c/\K (Mv d e a b c) k)
def B6d a b c d e(hvc:C0r prog a b c d e h K):aC prog A1i #[I a,I b,Sl c d e] h K:=
 fnk func175 an0 [6] [] hvc
def Zu(P:aG)(a:Int)(b:Int)(d:OA)(e f:Nat)(h:aI)(K:VP):Prop:=
 aC P Tm #[Mv a b d e f] h (fun m c=>∃ (g:Bool),m= .bool g/\Br (!g) (K (.tuple #[Mv (0:Int) (0:Int) none 0 0,I 1]) c)
 (aC P Gt #[Sl d e f,I a,I b] c (fun n i=>∃ j k l,n=Sl j k l/\c.le i/\K (.tuple #[Mv b a j k l,I 0]) i)))
def A2f a b c d e(hvc:Zu prog a b c d e h K):aC prog Iv #[Mv a b c d e] h K:=
 fnk func120 an0 [1,2] [] hvc
def C7z(P:aG)(q:Int)(c:Int)(c9:OA)(d0 d1:Nat)(j:Int)(k:Int)(d2:OA)(d3 d4:Nat)(h:aI)(K:VP):Prop:=
 aC P Qu #[Mv q c c9 d0 d1] h (fun d5 d6=>∃ (z:OA) (A B:Nat) (C:Bool),d5= .tuple #[Sl z A B,.bool C]/\aC P Qu #[Mv j k d2 d3 d4] d6 (fun d7 l=>∃ (D:OA) (E F:Nat) (G:Bool),d7= .tuple #[Sl D E F,.bool G]/\Br (!C) (K (.tuple #[Mv (0:Int) (0:Int) none 0 0,I 1]) l)
 (Br (!G) (K (.tuple #[Mv (0:Int) (0:Int) none 0 0,I 1]) l)
 (Br (c != j) (K (.tuple #[Mv (0:Int) (0:Int) none 0 0,I 4]) l)
 (aC P Fd #[Sl z A B,I c] l (fun d8 a7=>∃ b0 s f0,d8=Sl b0 s f0/\aC P W6 #[Sl D E F,I j,I k] a7 (fun d9 v=>∃ b1 b2 b3,d9=Sl b1 b2 b3/\a7.le v/\aC P Fd #[Sl b1 b2 b3,I j] v (fun e0 a8=>∃ b4 u f1,e0=Sl b4 u f1/\v.le a8/\wpH P (aH 128 (I 0) (I (B5 (q*k)))) (fun e1 e2=>∃ b5 b6 b7,e1=Sl b5 b6 b7/\∃ (r:LP) (H:LN),r [.slice b5 b6 b7,I 0] e2/\
 ∀ m n o a e,r [.slice m n o,I a] e->Bd (a<(s:Int)) (∃ p,Ax b0 p a s <| ∃ (J:OA) (L M:Nat) (N:Bool) (O:OA) (Q R:Nat),e.cell? (aJ (p.add (a.toNat*3)) 0)=some (.slice J L M)/\e.cell? (aJ (p.add (a.toNat*3)) 1)=some (.bool N)/\e.cell? (aJ (p.add (a.toNat*3)) 2)=some (.slice O Q R)/\∃ (t:LP) (S:LN),t [.slice m n o,I 0] e/\
 ∀ f g i b d,t [.slice f g i,I b] d->Bd (b<(u:Int)) (∃ c,Ax b4 c b u <| ∃ (T:OA) (V W:Nat) (X:Bool) (Z:OA) (a0 a1:Nat),d.cell? (aJ (c.add (b.toNat*3)) 0)=some (.slice T V W)/\d.cell? (aJ (c.add (b.toNat*3)) 1)=some (.bool X)/\d.cell? (aJ (c.add (b.toNat*3)) 2)=some (.slice Z a0 a1)/\aC P Tn #[.agg #[Sl J L M,.bool N,Sl O Q R],.agg #[Sl T V W,.bool X,Sl Z a0 a1]] d (fun e3 e4=>∃ b8 b9 c0 c1 c2 c3 c4 c5,e3=Qv b8 b9 c0 c1 c2 c3 c4 c5/\wpH P (aF 128 1 #[(0,Qv b8 b9 c0 c1 c2 c3 c4 c5)]) (fun e5 e6=>∃ c6 c7 c8,e5=Sl c6 c7 c8/\wpH P (aE #[128,128] 128 #[Sl f g i,Sl c6 c7 c8]) (fun e7 a9=>∃ w x y,e7=Sl w x y/\t [.slice w x y,I (B5 (b+1))] a9/\S [.slice w x y,I (B5 (b+1))] a9<S [.slice f g i,I b] d) e6) e4))
 (r [.slice f g i,I (B5 (a+1))] d/\H [.slice f g i,I (B5 (a+1))] d<H [.slice m n o,I a] e))
 (aC P A1i #[I q,I k,Sl m n o] e (fun e8 e9=>∃ (a2:Int) (a3:Int) (a4:OA) (a5 a6:Nat),e8=Mv a2 a3 a4 a5 a6/\K (.tuple #[Mv a2 a3 a4 a5 a6,I 0]) e9))) a8))))))))
def C3g a b c d e f g i j k(hvc:C7z prog a b c d e f g i j k h K):aC prog A92 #[Mv a b c d e,Mv f g i j k] h K:=
 fnk func97 ⟨[(11,⟨[12,61],[],[N0,I 0],⟨([12,14,16]++Lrg 61 18),[14,16]⟩⟩),(14,⟨[12,67],[],[N0,I 0],⟨([12,16]++Lrg 67 11),[16]⟩⟩)],[],[(8,([0,1,2,3,4,6,7,5,8,9],[]))],[],[]⟩ [2,3,4,14,16] [] hvc
def C0w(P:aG)(o:Int)(i:Int)(a9:OA)(b0 b1:Nat)(b2:OA)(p b3:Nat)(h:aI)(K:VP):Prop:=
 aC P Qu #[Mv o i a9 b0 b1] h (fun b4 b5=>∃ (q:OA) (r s:Nat) (t:Bool),b4= .tuple #[Sl q r s,.bool t]/\aC P Fc #[Sl b2 p b3] b5 (fun b6 c=>∃ (u:OA) (v w:Nat) (x:Bool),b6= .tuple #[Sl u v w,.bool x]/\Br (!t) (K (.tuple #[Sl none 0 0,I 1]) c)
 (Br (!x) (K (.tuple #[Sl none 0 0,I 1]) c)
 (Br ((p:Int) != i) (K (.tuple #[Sl none 0 0,I 4]) c)
 (aC P Do #[Sl u v w] c (fun b7 b8=>∃ (y:OA) (z A:Nat) (B:Bool) (C:OA) (D E:Nat),b7= .agg #[Sl y z A,.bool B,Sl C D E]/\wpH P (aH 38 (I 0) (I o)) (fun b9 c0=>∃ S T V,b9=Sl S T V/\aC P Fd #[Sl q r s,I i] c0 (fun c1 c2=>∃ W k d0,c1=Sl W k d0/\∃ (j:LP) (F:LN),j [.slice S T V,I 0] c2/\
 ∀ d e f a b,j [.slice d e f,I a] b->Bd (a<(k:Int)) (∃ g,Ax W g a k <| ∃ (G:OA) (H J:Nat) (L:Bool) (M:OA) (N O:Nat),b.cell? (aJ (g.add (a.toNat*3)) 0)=some (.slice G H J)/\b.cell? (aJ (g.add (a.toNat*3)) 1)=some (.bool L)/\b.cell? (aJ (g.add (a.toNat*3)) 2)=some (.slice M N O)/\aC P Tn #[.agg #[Sl G H J,.bool L,Sl M N O],.agg #[Sl y z A,.bool B,Sl C D E]] b (fun c3 c4=>∃ X Z a0 a1 a2 a3 a4 a5,c3=Qv X Z a0 a1 a2 a3 a4 a5/\aC P W4 #[Qv X Z a0 a1 a2 a3 a4 a5] c4 (fun c5 c6=>∃ (Q:ByteArray),c5= .string Q/\wpH P (aF 38 1 #[(0,.string Q)]) (fun c7 c8=>∃ a6 a7 a8,c7=Sl a6 a7 a8/\wpH P (aE #[38,38] 38 #[Sl d e f,Sl a6 a7 a8]) (fun c9 R=>∃ l m n,c9=Sl l m n/\j [.slice l m n,I (B5 (a+1))] R/\F [.slice l m n,I (B5 (a+1))] R<F [.slice d e f,I a] b) c8) c6)))
 (K (.tuple #[Sl d e f,I 0]) b))) b8))))))
def B6k a b c d e f g i(hvc:C0w prog a b c d e f g i h K):aC prog Tp #[Mv a b c d e,Sl f g i] h K:=
 fnk func101 { loops:=[(10,⟨[11,45],[],[N0,I 0],⟨([11,13]++Lrg 45 12),[13]⟩⟩)] } [2,10,13] [] hvc
def Zw(P:aG)(f:OA)(a x:Nat)(h:aI)(K:VP):Prop:=
 (wpH P (aH 220 (I (a:Int)) (I (a:Int))) (fun b5 j=>∃ l m G,b5=Sl l m G/\h.le j/\aC P J3 #[Sl f a x] j (fun b6 A=>∃ n o p q,b6=Zv n o p q/\j.le A/\∃ (g:LP) (y:LN),g [I 0] A/\
 ∀ b d,g [I b] d->Bd (b<(a:Int)) (∃ H,Ax f H b a <| ∃ J L M N O Q R S,Lq d (H.add (b.toNat*4)) J L M N O Q R S<|aC P Ir #[Qv J L M N O Q R S,Zv n o p q] d (fun b7 B=>∃ T V W X,b7=Zv T V W X/\d.le B/\∃ Z,Ax l Z b m<|wpH P (aD 138 (Pt (Z.add (b.toNat*2))) (Zv T V W X)) (fun _ C=>g [I (B5 (b+1))] C/\y [I (B5 (b+1))] C<y [I b] d) B))
 (K (.agg #[Sl l m G,.bool n,Sl o p q]) d))) h)/\(aC P J3 #[Sl f a x] h (fun b8 k=>∃ r s t u,b8=Zv r s t u/\h.le k/\wpH P (aH 220 (I (a:Int)) (I (a:Int))) (fun b9 D=>∃ v w a0,b9=Sl v w a0/\k.le D/\∃ (i:LP) (z:LN),i [I 0] D/\
 ∀ c e,i [I c] e->Bd (c<(a:Int)) (∃ a1,Ax f a1 c a <| ∃ a2 a3 a4 a5 a6 a7 a8 a9,Lq e (a1.add (c.toNat*4)) a2 a3 a4 a5 a6 a7 a8 a9<|aC P Ir #[Qv a2 a3 a4 a5 a6 a7 a8 a9,Zv r s t u] e (fun c0 E=>∃ b0 b1 b2 b3,c0=Zv b0 b1 b2 b3/\e.le E/\∃ b4,Ax v b4 c w<|wpH P (aD 138 (Pt (b4.add (c.toNat*2))) (Zv b0 b1 b2 b3)) (fun _ F=>i [I (B5 (c+1))] F/\z [I (B5 (c+1))] F<z [I c] e) E))
 (K (.agg #[Sl v w a0,.bool r,Sl s t u]) e)) k))
def A2g a b c(hvc:Zw prog a b c h K):aC prog Do #[Sl a b c] h K:=
 fnk func182 ⟨[(3,⟨[14],[],[I 0],⟨([4,5]++Lrg 14 14),[5]⟩⟩)],[],[(1,([0,1,3,6,2,4,5,7],[]))],[],[(1,[(2,[4])])]⟩ [2,3,5] [] hvc
def A9r(P:aG)(D:OA)(E F:Nat)(G:Int)(h:aI)(K:VP):Prop:=
 wpH P (aK 231 true (T0)) (fun L M=>∃ (a:Addr),L=Pt a/\aC P To #[Sl D E F,I G] M (fun N O=>∃ (d:Value),N=d/\A59 P (d) O (fun (H:List Value) (b:aI) (J:aI->Prop)=>∃ (e:OA) (f g:Nat),H=[.slice e f g]/\∃ (i:OA) (j k:Nat),b.cell? a=some (.slice i j k)/\aC P Do #[Sl e f g] b (fun Q c=>∃ (l:OA) (m n:Nat) (o:Bool) (p:OA) (q r:Nat),Q= .agg #[Sl l m n,.bool o,Sl p q r]/\b.le c/\wpH P (aF 231 1 #[(0,.agg #[Sl l m n,.bool o,Sl p q r])]) (fun R v=>∃ x y z,R=Sl x y z/\c.le v/\wpH P (aE #[231,231] 231 #[Sl i j k,Sl x y z]) (fun S T=>∃ A B C,S=Sl A B C/\wpH P (aD 231 (Pt a) (.slice A B C)) (fun _ V=>J V) T) v) c))
 (fun w=>∃ (s:OA) (t u:Nat),w.cell? a=some (.slice s t u)/\K (Sl s t u) w))) h
def A7t a b c d(hvc:A9r prog a b c d h K):aC prog Fd #[Sl a b c,I d] h K:=
 fnk func176 { rounds:=[(4,[N0])] } [] [1000000000] hvc
def C0u(P:aG)(b:Int)(a:Int)(a0:OA)(a1 a2:Nat)(a3:OA)(m a4:Nat)(h:aI)(K:VP):Prop:=
 aC P Qu #[Mv b a a0 a1 a2] h (fun a6 a7=>∃ (d:OA) (e f:Nat) (n:Bool),a6= .tuple #[Sl d e f,.bool n]/\aC P Fc #[Sl a3 m a4] a7 (fun a8 c=>∃ (g:OA) (i j:Nat) (o:Bool),a8= .tuple #[Sl g i j,.bool o]/\Br (!n) (K (.tuple #[Sl none 0 0,Sl none 0 0,I 1]) c)
 (Br (!o) (K (.tuple #[Sl none 0 0,Sl none 0 0,I 1]) c)
 (Br ((m:Int) != b) (K (.tuple #[Sl none 0 0,Sl none 0 0,I 4]) c)
 (aC P Ox #[Sl d e f,I b,I a,Sl g i j] c (fun a9 w=>∃ (p:OA) (q r:Nat) (s:Bool),a9= .tuple #[Sl p q r,.bool s]/\Br s (aC P Fb #[Sl p q r] w (fun b0 b1=>∃ z A B,b0=Sl z A B/\K (.tuple #[Sl z A B,Sl none 0 0,I 0]) b1))
 (aC P W6 #[Sl d e f,I b,I a] w (fun b2 b3=>∃ C D E,b2=Sl C D E/\wpH P (aE #[128,128] 128 #[Sl C D E,Sl g i j]) (fun b4 b5=>∃ F G H,b4=Sl F G H/\wpH P (aH 128 (I (B5 (a+1))) (I (B5 (a+1)))) (fun b6 x=>∃ k l J,b6=Sl k l J/\aC P A1a #[I 1] x (fun b7 y=>∃ L M N O Q R S T,b7=Qv L M N O Q R S T/\x.le y/\∃ V,Ax k V a l<|wpH P (aD 145 (Pt (V.add (a.toNat*4))) (Qv L M N O Q R S T)) (fun _ b8=>aC P Ox #[Sl F G H,I (B5 (a+1)),I b,Sl k l J] b8 (fun b9 c0=>∃ (t:OA) (u v:Nat) (a5:Bool),b9= .tuple #[Sl t u v,.bool a5]/\aC P Fb #[Sl t u v] c0 (fun c1 c2=>∃ W X Z,c1=Sl W X Z/\K (.tuple #[Sl none 0 0,Sl W X Z,I 8]) c2))) y)) b5) b3))))))))
def B6g a b c d e f g i(hvc:C0u prog a b c d e f g i h K):aC prog A1j #[Mv a b c d e,Sl f g i] h K:=
 fnk func124 an0 [2] [] hvc
def B6h(P:aG)(c0:OA)(e1 m:Nat)(c1:Int)(a:Int)(c2:OA)(c3 e2:Nat)(h:aI)(K:VP):Prop:=
 ∃ (n:LP) (v:LN),n [N0,I 0] h/\
 ∀ i j k b l,n [.slice i j k,I b] l->Bd (b<c1) ((0<=B5 ((B5 (b+1))*a)/\B5 ((B5 (b+1))*a)<=(m:Int))/\(0<=B5 (b*a)/\B5 (b*a)<=(((B5 ((B5 (b+1))*a)).toNat:Nat):Int))/\wpH P (aE #[128,128] 128 #[Sl i j k,.slice (J9 c0 m ((B5 (b*a)).toNat) 4) (((B5 ((B5 (b+1))*a)).toNat)-((B5 (b*a)).toNat)) (m-((B5 (b*a)).toNat))]) (fun c7 D=>∃ J L M,c7=Sl J L M/\∃ N,Ax c2 N b c3 <| ∃ O Q R S T V W X,Lq D (N.add (b.toNat*4)) O Q R S T V W X<|wpH P (aF 128 1 #[(0,Qv O Q R S T V W X)]) (fun c8 c9=>∃ Z a0 a1,c8=Sl Z a0 a1/\wpH P (aE #[128,128] 128 #[Sl J L M,Sl Z a0 a1]) (fun d0 E=>∃ p q r,d0=Sl p q r/\n [.slice p q r,I (B5 (b+1))] E/\v [.slice p q r,I (B5 (b+1))] E<v [.slice i j k,I b] l) c9) D) l)
 (aC P Gu #[Sl i j k,I (B5 (a+1))] l (fun d1 d2=>∃ (e:OA),d1= .pointer e/\aC P Oz #[.pointer e,I a] d2 (fun d3 d4=>∃ (w:OA) (f c4:Nat) (x:Bool) (y:OA) (z A:Nat) (c5:Int),d3= .tuple #[Sl w f c4,Zv x y z A,I c5]/\aC P A1n #[.pointer e,I (f:Int),I a] d4 (fun d5 F=>∃ (c6:Int) (B:Bool),d5= .tuple #[I c6,.bool B]/\Br B (K (.tuple #[Sl none 0 0,.bool false]) F)
 (wpH P (aH 128 (I a) (I a)) (fun d6 d7=>∃ s t a2,d6=Sl s t a2/\∃ (o:LP) (C:LN),o [I 0] d7/\
 ∀ c d,o [I c] d->Bd (c<(f:Int)) (∃ a3,Ax w a3 c f <| ∃ u,d.cell? (a3.add (c.toNat*1))=some (I u)/\aC P Oy #[.pointer e,I c] d (fun d8 g=>∃ a4 a5 e0,d8=Sl a4 a5 e0/\d.le g/\∃ a6,Ax a4 a6 a a5 <| ∃ a7 a8 a9 b0,Lz g (a6.add (a.toNat*2)) a7 a8 a9 b0<|aC P Y7 #[Zv a7 a8 a9 b0,Zv x y z A] g (fun d9 G=>∃ b1 b2 b3 b4 b5 b6 b7 b8,d9=Qv b1 b2 b3 b4 b5 b6 b7 b8/\g.le G/\∃ b9,Ax s b9 u t<|wpH P (aD 145 (Pt (b9.add (u.toNat*4))) (Qv b1 b2 b3 b4 b5 b6 b7 b8)) (fun _ H=>o [I (B5 (c+1))] H/\C [I (B5 (c+1))] H<C [I c] d) G)))
 (K (.tuple #[Sl s t a2,.bool true]) d)) F)))))
def B1j a b c d e f g i(hvc:B6h prog a b c d e f g i h K):aC prog Ox #[Sl a b c,I d,I e,Sl f g i] h K:=
 fnk func214 ⟨[(3,⟨[10,22],[],[N0,I 0],⟨([10,11]++Lrg 22 22),[]⟩⟩),(15,⟨[68],[],[I 0],⟨([19,20]++Lrg 68 17),[]⟩⟩)],[],[(17,([0,1,2,3,5,8,4,6,7,9,10,11],[]))],[],[]⟩ [14] [174] hvc
def Ww(P:aG)(D:OA)(r M:Nat)(E:Int)(l:Int)(h:aI)(K:VP):Prop:=
 wpH P (aH 38 (I 0) (I (r:Int))) (fun F G=>∃ w x y,F=Sl w x y/\∃ (m:LP) (s:LN),m [.slice w x y,I 0] G/\
 ∀ g i j a k,m [.slice g i j,I a] k->Bd (a<l) (∃ (n:LP) (t:LN),n [.slice g i j,I 0] k/\
 ∀ d e f b c,n [.slice d e f,I b] c->Bd (b<E) (∃ z,Ax D z (B5 ((B5 (b*l))+a)) r <| ∃ (u:ByteArray),c.cell? (z.add ((B5 ((B5 (b*l))+a)).toNat*1))=some (.string u)/\wpH P (aF 38 1 #[(0,.string u)]) (fun H J=>∃ A B C,H=Sl A B C/\wpH P (aE #[38,38] 38 #[Sl d e f,Sl A B C]) (fun L v=>∃ o p q,L=Sl o p q/\n [.slice o p q,I (B5 (b+1))] v/\t [.slice o p q,I (B5 (b+1))] v<t [.slice d e f,I b] c) J) c)
 (m [.slice d e f,I (B5 (a+1))] c/\s [.slice d e f,I (B5 (a+1))] c<s [.slice g i j,I a] k))
 (K (Sl g i j) k)) h
def Xw a b c d e(hvc:Ww prog a b c d e h K):aC prog Gt #[Sl a b c,I d,I e] h K:=
 fnk func213 { loops:=[(3,⟨[7,14],[],[N0,I 0],⟨([7,8,9]++Lrg 14 20),[]⟩⟩),(6,⟨[7,18],[],[N0,I 0],⟨([7,9]++Lrg 18 15),[]⟩⟩)] } [] [] hvc
def Wx(P:aG)(M:OA)(r V:Nat)(N:Int)(l:Int)(h:aI)(K:VP):Prop:=
 wpH P (aH 128 (I 0) (I (r:Int))) (fun O Q=>∃ v w x,O=Sl v w x/\∃ (m:LP) (s:LN),m [.slice v w x,I 0] Q/\
 ∀ g i j a k,m [.slice g i j,I a] k->Bd (a<l) (∃ (n:LP) (t:LN),n [.slice g i j,I 0] k/\
 ∀ d e f b c,n [.slice d e f,I b] c->Bd (b<N) (∃ y,Ax M y (B5 ((B5 (b*l))+a)) r <| ∃ z A B C D E F G,Lq c (y.add ((B5 ((B5 (b*l))+a)).toNat*4)) z A B C D E F G<|wpH P (aF 128 1 #[(0,Qv z A B C D E F G)]) (fun R S=>∃ H J L,R=Sl H J L/\wpH P (aE #[128,128] 128 #[Sl d e f,Sl H J L]) (fun T u=>∃ o p q,T=Sl o p q/\n [.slice o p q,I (B5 (b+1))] u/\t [.slice o p q,I (B5 (b+1))] u<t [.slice d e f,I b] c) S) c)
 (m [.slice d e f,I (B5 (a+1))] c/\s [.slice d e f,I (B5 (a+1))] c<s [.slice g i j,I a] k))
 (K (Sl g i j) k)) h
def Xx a b c d e(hvc:Wx prog a b c d e h K):aC prog W6 #[Sl a b c,I d,I e] h K:=
 fnk func177 { loops:=[(3,⟨[7,14],[],[N0,I 0],⟨([7,8,9]++Lrg 14 20),[]⟩⟩),(6,⟨[7,18],[],[N0,I 0],⟨([7,9]++Lrg 18 15),[]⟩⟩)] } [] [] hvc
def C0t(P:aG)(N:OA)(g a7:Nat)(O:Bool)(Q:OA)(R S:Nat)(T:OA)(V a8:Nat)(W:Bool)(X:OA)(Z a0:Nat)(h:aI)(K:VP):Prop:=
 wpH P (aK 265 true (T0)) (fun a1 a2=>∃ (c:Addr),a1=Pt c/\∃ (d:LP) (i:LN),d [I 0] a2/\
 ∀ a b,d [I a] b->Bd (a<(g:Int)) (∃ l,Ax N l a g <| ∃ m n o p,Lz b (l.add (a.toNat*2)) m n o p <| ∃ q,Ax T q a V <| ∃ r s t u,Lz b (q.add (a.toNat*2)) r s t u<|aC P V9 #[Pt c,Zv m n o p,Zv r s t u] b (fun a3 j=>a3=T0/\d [I (B5 (a+1))] j/\i [I (B5 (a+1))] j<i [I a] b))
 (aC P Tj #[Pt c] b (fun a4 e=>∃ v w x y,a4=Zv v w x y/\b.le e/\aC P Bq #[Zv O Q R S,Zv W X Z a0] e (fun a5 f=>∃ z A B C,a5=Zv z A B C/\e.le f/\aC P Y7 #[Zv v w x y,Zv z A B C] f (fun a6 k=>∃ D E F G H J L M,a6=Qv D E F G H J L M/\f.le k/\K (Qv D E F G H J L M) k))))) h
def B6f a b c d e f g i j k l m n o(hvc:C0t prog a b c d e f g i j k l m n o h K):aC prog Tn #[.agg #[Sl a b c,.bool d,Sl e f g],.agg #[Sl i j k,.bool l,Sl m n o]] h K:=
 fnk func178 ⟨[(3,⟨[11],[],[I 0],⟨([6,7]++Lrg 11 13),[7]⟩⟩)],[],[(7,([1,2,3,4,0,5,6,7],[]))],[],[]⟩ [2,3,4,7] [244] hvc
def A5h(P:aG)(m3:OA)(m4 m5:Nat)(b5:Int)(h:aI)(K:VP):Prop:=
 wpH P (Instr.box 225 (.agg #[I b5,Sl none 0 0,Sl none 0 0])) (fun m8 m9=>∃ (b6:Addr),m8=Pt b6/\wpH P (aK 135 true (T0)) (fun n0 n1=>∃ (a:Addr),n0=Pt a/\wpH P (aD 135 (Pt a) (Pt b6)) (fun _ n2=>aC P To #[Sl m3 m4 m5,I b5] n2 (fun n3 n4=>∃ (b7:Value),n3=b7/\A59 P (b7) n4 (fun (m6:List Value) (m7:aI) (w:aI->Prop)=>∃ (V:OA) (x b8:Nat),m6=[.slice V x b8]/\aC P J3 #[Sl V x b8] m7 (fun n5 Z=>∃ B C D E,n5=Zv B C D E/\∃ (b9:OA),Z.cell? a=some (.pointer b9)/\∃ e6,b9=some e6/\∃ q6 e q7,Hd Z (e6.add 1) q6 e q7 <| ∃ (s:LP) (q:LN),s [I 0,.bool false,N0] Z/\
 ∀ c g i j k l,s [I c,.bool g,.slice i j k] l->Bd (c<(x:Int)) (∃ e7,Ax V e7 c x <| ∃ e8 e9 f0 f1 f2 f3 f4 f5,Lq l (e7.add (c.toNat*4)) e8 e9 f0 f1 f2 f3 f4 f5<|aC P Ir #[Qv e8 e9 f0 f1 f2 f3 f4 f5,Zv B C D E] l (fun n6 n7=>∃ F G H J,n6=Zv F G H J/\aC P Oj #[Zv g i j k,Zv F G H J] n7 (fun n8 f=>∃ m n o p,n8=Zv m n o p/\∃ (c0:OA),f.cell? a=some (.pointer c0)/\∃ f6,c0=some f6/\∃ L M N,Hd f (f6.add 1) L M N<|(∃ (c1:OA),f.cell? a=some (.pointer c1)/\wpH P (aF 220 1 #[(0,Zv F G H J)]) (fun n9 d4=>∃ f7 f8 f9,n9=Sl f7 f8 f9/\f.le d4/\wpH P (aE #[220,220] 220 #[Sl L M N,Sl f7 f8 f9]) (fun o0 o1=>∃ g0 g1 g2,o0=Sl g0 g1 g2/\∃ g3,c1=some g3/\wpH P (aD 220 (Pt (g3.add 1)) (.slice g0 g1 g2)) (fun _ d5=>s [I (B5 (c+1)),.bool m,.slice n o p] d5/\q [I (B5 (c+1)),.bool m,.slice n o p] d5<q [I c,.bool g,.slice i j k] l) o1) d4) f)/\(wpH P (aF 220 1 #[(0,Zv F G H J)]) (fun o2 z=>∃ a1 a2 a3,o2=Sl a1 a2 a3/\f.le z/\(∃ (c2:OA),z.cell? a=some (.pointer c2)/\wpH P (aE #[220,220] 220 #[Sl L M N,Sl a1 a2 a3]) (fun o3 o4=>∃ g4 g5 g6,o3=Sl g4 g5 g6/\∃ g7,c2=some g7/\wpH P (aD 220 (Pt (g7.add 1)) (.slice g4 g5 g6)) (fun _ d6=>s [I (B5 (c+1)),.bool m,.slice n o p] d6/\q [I (B5 (c+1)),.bool m,.slice n o p] d6<q [I c,.bool g,.slice i j k] l) o4) z)/\(wpH P (aE #[220,220] 220 #[Sl L M N,Sl a1 a2 a3]) (fun o5 d7=>∃ g8 g9 h0,o5=Sl g8 g9 h0/\∃ (c3:OA),d7.cell? a=some (.pointer c3)/\∃ h1,c3=some h1/\wpH P (aD 220 (Pt (h1.add 1)) (.slice g8 g9 h0)) (fun _ d8=>s [I (B5 (c+1)),.bool m,.slice n o p] d8/\q [I (B5 (c+1)),.bool m,.slice n o p] d8<q [I c,.bool g,.slice i j k] l) d7) z)) f))))
 (∃ (W:LP),(aC P E8 #[Zv g i j k] l (fun o6 d9=>∃ (c4:Bool),o6= .bool c4/\Br c4 (aC P Rs #[I 1] d9 (fun o7 o8=>∃ h2 h3 h4 h5,o7=Zv h2 h3 h4 h5/\W [.bool h2,.slice h3 h4 h5] o8))
 (W [.bool g,.slice i j k] d9)))/\
 ∀ O Q R S T,W [.bool O,.slice Q R S] T->∃ (c5:OA),T.cell? a=some (.pointer c5)/\∃ h6,c5=some h6/\∃ h7 y h8,Hd T (h6.add 1) h7 y h8<|(0<=(e:Int)/\(e:Int)<=(y:Int))/\∃ (X:LP) (c6:LN),X [I 0] T/\
 ∀ d b,X [I d] b->Bd (d<((y-(((e:Int)).toNat):Nat):Int)) (∃ h9,J9 h7 h8 (((e:Int)).toNat) 2=some h9/\0<=d/\d<((y-(((e:Int)).toNat):Nat):Int)/\∃ i0 i1 i2 i3,Lz b (h9.add (d.toNat*2)) i0 i1 i2 i3 <| ∃ (c7:OA),b.cell? a=some (.pointer c7)/\∃ i4,c7=some i4/\∃ i5 i6 q8,Hd b (i4.add 1) i5 i6 q8<|aC P Fa #[Zv i0 i1 i2 i3,Zv O Q R S] b (fun o9 e0=>∃ i7 i8 i9 j0,o9=Zv i7 i8 i9 j0/\b.le e0/\∃ j1,Ax i5 j1 (B5 ((e:Int)+d)) i6<|wpH P (aD 138 (Pt (j1.add ((B5 ((e:Int)+d)).toNat*2))) (Zv i7 i8 i9 j0)) (fun _ e1=>X [I (B5 (d+1))] e1/\c6 [I (B5 (d+1))] e1<c6 [I d] b) e0))
 (∃ (c8:OA),b.cell? a=some (.pointer c8)/\∃ j2,c8=some j2/\∃ t u v,Hd b (j2.add 2) t u v<|(∃ (c9:OA),b.cell? a=some (.pointer c9)/\aC P Y7 #[Zv B C D E,Zv O Q R S] b (fun p0 a0=>∃ j3 j4 j5 j6 j7 j8 j9 k0,p0=Qv j3 j4 j5 j6 j7 j8 j9 k0/\b.le a0/\wpH P (aF 128 1 #[(0,Qv j3 j4 j5 j6 j7 j8 j9 k0)]) (fun p1 e2=>∃ k1 k2 k3,p1=Sl k1 k2 k3/\a0.le e2/\wpH P (aE #[128,128] 128 #[Sl t u v,Sl k1 k2 k3]) (fun p2 p3=>∃ k4 k5 k6,p2=Sl k4 k5 k6/\∃ k7,c9=some k7/\wpH P (aD 128 (Pt (k7.add 2)) (.slice k4 k5 k6)) (fun _ p4=>w p4) p3) e2) a0))/\(aC P Y7 #[Zv B C D E,Zv O Q R S] b (fun p5 r=>∃ a4 a5 a6 a7 a8 a9 b0 b1,p5=Qv a4 a5 a6 a7 a8 a9 b0 b1/\b.le r/\(∃ (d0:OA),r.cell? a=some (.pointer d0)/\wpH P (aF 128 1 #[(0,Qv a4 a5 a6 a7 a8 a9 b0 b1)]) (fun p6 e3=>∃ k8 k9 l0,p6=Sl k8 k9 l0/\r.le e3/\wpH P (aE #[128,128] 128 #[Sl t u v,Sl k8 k9 l0]) (fun p7 p8=>∃ l1 l2 l3,p7=Sl l1 l2 l3/\∃ l4,d0=some l4/\wpH P (aD 128 (Pt (l4.add 2)) (.slice l1 l2 l3)) (fun _ p9=>w p9) p8) e3) r)/\(wpH P (aF 128 1 #[(0,Qv a4 a5 a6 a7 a8 a9 b0 b1)]) (fun q0 A=>∃ b2 b3 b4,q0=Sl b2 b3 b4/\r.le A/\(∃ (d1:OA),A.cell? a=some (.pointer d1)/\wpH P (aE #[128,128] 128 #[Sl t u v,Sl b2 b3 b4]) (fun q1 q2=>∃ l5 l6 l7,q1=Sl l5 l6 l7/\∃ l8,d1=some l8/\wpH P (aD 128 (Pt (l8.add 2)) (.slice l5 l6 l7)) (fun _ q3=>w q3) q2) A)/\(wpH P (aE #[128,128] 128 #[Sl t u v,Sl b2 b3 b4]) (fun q4 e4=>∃ l9 m0 m1,q4=Sl l9 m0 m1/\∃ (d2:OA),e4.cell? a=some (.pointer d2)/\∃ m2,d2=some m2/\wpH P (aD 128 (Pt (m2.add 2)) (.slice l9 m0 m1)) (fun _ q5=>w q5) e4) A)) r)))))))
 (fun e5=>∃ (d3:OA),e5.cell? a=some (.pointer d3)/\K (.pointer d3) e5))) n1) m9) h
def A5g a b c d(hvc:A5h prog a b c d h K):aC prog Gu #[Sl a b c,I d] h K:=
 fnk func163 ⟨[(8,⟨[31],[(9,2)],[I 0,.bool false,N0],⟨([11,12]++Lrg 31 21),[9,11,12]⟩⟩),(17,⟨[62],[],[I 0],⟨([13,14]++Lrg 62 17),[14]⟩⟩)],[(16,⟨[],[(9,2)],[.bool false,N0],⟨[52,53,54],[9]⟩⟩)],[(12,([1,2,3,4,5,0,6,7,8,9,10],[])),(21,([1,2,3,4,5,6,0,7,8,9,10,11,12],[]))],[(4,[N0])],[(12,[(0,[6,7])]),(21,[(0,[7,8,9])])]⟩ [7,9,11,12,14] [1000000000] hvc
def C83(P:aG)(e:OA)(a:Int)(h:aI)(K:VP):Prop:=
 ∃ f,e=some f/\∃ g k d,Hd h (f.add 1) g k d <| ∃ i,e=some i/\∃ b,h.cell? (i.add 0)=some (I b)/\∃ j,e=some j/\∃ c,h.cell? (j.add 0)=some (I c)/\(0<=B5 ((B5 (a+1))*c)/\B5 ((B5 (a+1))*c)<=(d:Int))/\(0<=B5 (a*b)/\B5 (a*b)<=(((B5 ((B5 (a+1))*c)).toNat:Nat):Int))/\K (.slice (J9 g d ((B5 (a*b)).toNat) 2) (((B5 ((B5 (a+1))*c)).toNat)-((B5 (a*b)).toNat)) (d-((B5 (a*b)).toNat))) h
def C3j a b(hvc:C83 prog a b h K):aC prog Oy #[.pointer a,I b] h K:=
 fnk func165 an0 [] [] hvc
def C5r(P:aG)(c:OA)(d:Int)(e:Int)(h:aI)(K:VP):Prop:=
 aC P Oy #[.pointer c,I d] h (fun b0 b1=>∃ i f b7,b0=Sl i f b7/\aC P Oy #[.pointer c,I e] b1 (fun b2 b3=>∃ j k b8,b2=Sl j k b8/\∃ (g:LP) (l:LN),g [I 0] b3/\
 ∀ a b,g [I a] b->Bd (a<(f:Int)) (∃ n,Ax j n a k <| ∃ o p q r,Lz b (n.add (a.toNat*2)) o p q r <| ∃ s,Ax i s a f <| ∃ t u v w,Lz b (s.add (a.toNat*2)) t u v w <| ∃ x,Ax i x a f<|wpH P (aD 138 (Pt (x.add (a.toNat*2))) (Zv o p q r)) (fun _ b4=>∃ y,Ax j y a k<|wpH P (aD 138 (Pt (y.add (a.toNat*2))) (Zv t u v w)) (fun _ m=>g [I (B5 (a+1))] m/\l [I (B5 (a+1))] m<l [I a] b) b4) b)
 (∃ z,c=some z/\∃ A B b9,Hd b (z.add 2) A B b9 <| ∃ C,c=some C/\∃ D E c0,Hd b (C.add 2) D E c0 <| ∃ F,c=some F/\∃ G H c1,Hd b (F.add 2) G H c1 <| ∃ J,Ax G J e H <| ∃ L M N O Q R S T,Lq b (J.add (e.toNat*4)) L M N O Q R S T <| ∃ V,c=some V/\∃ W X c2,Hd b (V.add 2) W X c2 <| ∃ Z,Ax W Z d X <| ∃ a0 a1 a2 a3 a4 a5 a6 a7,Lq b (Z.add (d.toNat*4)) a0 a1 a2 a3 a4 a5 a6 a7 <| ∃ a8,Ax A a8 d B<|wpH P (aD 145 (Pt (a8.add (d.toNat*4))) (Qv L M N O Q R S T)) (fun _ b5=>∃ a9,Ax D a9 e E<|wpH P (aD 145 (Pt (a9.add (e.toNat*4))) (Qv a0 a1 a2 a3 a4 a5 a6 a7)) (fun _ b6=>K (T0) b6) b5) b)))
def B9l a b c(hvc:C5r prog a b c h K):aC prog A74 #[.pointer a,I b,I c] h K:=
 fnk func237 { loops:=[(2,⟨[17],[],[I 0],⟨([8]++Lrg 17 18),[]⟩⟩)] } [] [] hvc
def C5s(P:aG)(e:OA)(t:Int)(f:Int)(h:aI)(K:VP):Prop:=
 ∃ (c:LP) (g:LN),c [I t] h/\
 ∀ a b,c [I a] b->∃ l,e=some l/\∃ w i x,Hd b (l.add 2) w i x<|Bd (a<(i:Int)) (aC P Oy #[.pointer e,I a] b (fun u k=>∃ m n y,u=Sl m n y/\∃ o,Ax m o f n <| ∃ p q r s,Lz k (o.add (f.toNat*2)) p q r s<|aC P E8 #[Zv p q r s] k (fun v d=>∃ (j:Bool),v= .bool j/\Br (!j) (K (.tuple #[I a,.bool true]) d)
 (c [I (B5 (a+1))] d/\g [I (B5 (a+1))] d<g [I a] b))))
 (K (.tuple #[I 0,.bool false]) b)
def B9m a b c(hvc:C5s prog a b c h K):aC prog A1n #[.pointer a,I b,I c] h K:=
 fnk func246 { loops:=[(2,⟨[8],[],[I 0],⟨([6,7,8]++Lrg 10 18),[]⟩⟩)] } [] [] hvc
def C14(P:aG)(x:OA)(b4:Int)(b5:Int)(f:Int)(b6:Bool)(b7:OA)(b8 b9:Nat)(h:aI)(K:VP):Prop:=
 aC P Oy #[.pointer x,I b4] h (fun c0 c1=>∃ j e d1,c0=Sl j e d1/\aC P Oy #[.pointer x,I b5] c1 (fun c2 B=>∃ k l d2,c2=Sl k l d2/\∃ J,Ax j J f e <| ∃ p q r s,Lz B (J.add (f.toNat*2)) p q r s <| ∃ (d:LP) (c:LN),d [I 0] B/\
 ∀ a b,d [I a] b->Bd (a<(e:Int)) (∃ L,Ax j L a e <| ∃ t u v w,Lz b (L.add (a.toNat*2)) t u v w <| ∃ (m:LP),(aC P E8 #[Zv t u v w] b (fun c3 C=>∃ (y:Bool),c3= .bool y/\Br y (aC P E8 #[Zv p q r s] C (fun c4 i=>∃ (z:Bool),c4= .bool z/\Br z (d [I (B5 (a+1))] i/\c [I (B5 (a+1))] i<c [I a] b)
 (∃ M,Ax k M a l <| ∃ N O Q R,Lz i (M.add (a.toNat*2)) N O Q R<|aC P E8 #[Zv N O Q R] i (fun c5 n=>∃ (A:Bool),c5= .bool A/\Br A (d [I (B5 (a+1))] n/\c [I (B5 (a+1))] n<c [I a] b)
 (m [] n)))))
 (m [] C)))/\
 ∀ S,m [] S->wpH P (aK 265 true (T0)) (fun c6 D=>∃ (g:Addr),c6=Pt g/\∃ T,Ax k T f l <| ∃ V W X Z,Lz D (T.add (f.toNat*2)) V W X Z<|aC P V9 #[Pt g,Zv V W X Z,Zv t u v w] D (fun c7 E=>c7=T0/\∃ a0,Ax k a0 a l <| ∃ a1 a2 a3 a4,Lz E (a0.add (a.toNat*2)) a1 a2 a3 a4<|aC P Gr #[Pt g,Zv p q r s,Zv a1 a2 a3 a4] E (fun c8 F=>c8=T0/\aC P Tj #[Pt g] F (fun c9 o=>∃ a5 a6 a7 a8,c9=Zv a5 a6 a7 a8/\F.le o/\aC P Fa #[Zv a5 a6 a7 a8,Zv b6 b7 b8 b9] o (fun d0 G=>∃ a9 b0 b1 b2,d0=Zv a9 b0 b1 b2/\o.le G/\∃ b3,Ax j b3 a e<|wpH P (aD 138 (Pt (b3.add (a.toNat*2))) (Zv a9 b0 b1 b2)) (fun _ H=>d [I (B5 (a+1))] H/\c [I (B5 (a+1))] H<c [I a] b) G))))) S)
 (K (T0) b)))
def B6u a b c d e f g i(hvc:C14 prog a b c d e f g i h K):aC prog A1o #[.pointer a,I b,I c,I d,Zv e f g i] h K:=
 fnk func172 ⟨[(4,⟨[28],[],[I 0],⟨([13,14,15]++Lrg 28 37),[14]⟩⟩)],[(7,⟨[],[],[],⟨(Lrg 33 13),[]⟩⟩)],[(10,([0,1,3,2,4,5,6],[]))],[],[]⟩ [9,12,14] [244,245] hvc
def B6q(P:aG)(m:OA)(Z:Int)(h:aI)(K:VP):Prop:=
 aC P Rs #[I 1] h (fun a0 a1=>∃ L M N O,a0=Zv L M N O/\∃ (o:LP) (p:LN),o [N0,I 1,I 0,.bool L,.slice M N O] a1/\
 ∀ e a f d b g i j k n,o [.slice e a f,I d,I b,.bool g,.slice i j k] n->Bd (b<Z) (aC P A1n #[.pointer m,I (a:Int),I b] n (fun a2 s=>∃ (t:Int) (E:Bool),a2= .tuple #[I t,.bool E]/\Br (!E) (o [.slice e a f,I d,I (B5 (b+1)),.bool g,.slice i j k] s/\p [.slice e a f,I d,I (B5 (b+1)),.bool g,.slice i j k] s<p [.slice e a f,I d,I b,.bool g,.slice i j k] n)
 (∃ (u:LP),(Br (t != (a:Int)) (aC P A74 #[.pointer m,I (a:Int),I t] s (fun a3 a4=>a3=T0/\u [I (B5 (0-d))] a4))
 (u [I d] s))/\
 ∀ v w,u [I v] w->∃ Q,m=some Q/\∃ b0 F b1,Hd w (Q.add 2) b0 F b1 <| ∃ (q:LP) (r:LN),q [I 0] w/\
 ∀ c l,q [I c] l->Bd (c<(F:Int)) (Br (c != (a:Int)) (aC P A1o #[.pointer m,I c,I (a:Int),I b,Zv g i j k] l (fun a5 G=>a5=T0/\q [I (B5 (c+1))] G/\r [I (B5 (c+1))] G<r [I c] l))
 (q [I (B5 (c+1))] l/\r [I (B5 (c+1))] l<r [I c] l))
 (aC P Oy #[.pointer m,I (a:Int)] l (fun a6 H=>∃ R S b2,a6=Sl R S b2/\∃ T,Ax R T b S <| ∃ x y z A,Lz H (T.add (b.toNat*2)) x y z A<|wpH P (aF 70 1 #[(0,I b)]) (fun a7 a8=>∃ V W X,a7=Sl V W X/\wpH P (aE #[70,70] 70 #[Sl e a f,Sl V W X]) (fun a9 J=>∃ B C D,a9=Sl B C D/\o [.slice B C D,I v,I (B5 (b+1)),.bool x,.slice y z A] J/\p [.slice B C D,I v,I (B5 (b+1)),.bool x,.slice y z A] J<p [.slice e a f,I d,I b,.bool g,.slice i j k] n) a8) H)))))
 (K (.tuple #[Sl e a f,Zv g i j k,I d]) n))
def B1m a b(hvc:B6q prog a b h K):aC prog Oz #[.pointer a,I b] h K:=
 fnk func174 ⟨[(4,⟨[7,9,17],[(8,2)],[N0,I 0,I 0,.bool false,N0],⟨([7,9,10,11,12,13,14]++Lrg 17 52),[8]⟩⟩),(13,⟨[45],[],[I 0],⟨([14]++Lrg 45 13),[]⟩⟩)],[(12,⟨[9],[],[I 0],⟨([9]++Lrg 31 9),[]⟩⟩)],[],[],[]⟩ [5,8] [172,237] hvc
def C0v(P:aG)(e:OA)(f g:Nat)(i:Int)(h:aI)(K:VP):Prop:=
 wpH P (Instr.box 128 (.slice e f g)) (fun j k=>∃ (b:Addr),j=Pt b/\wpH P (Instr.box 3 (I i)) (fun l d=>∃ (a:Addr),l=Pt a/\∃ (c:Int),d.cell? a=some (I c)/\Bd (c<1) (False)
 (K (.func (.func 276) #[] #[Pt b,Pt a]) d)) k) h
def B6i a b c d(hvc:C0v prog a b c d h K):aC prog To #[Sl a b c,I d] h K:=
 fnk func234 an0 [] [] hvc
def B6j(P:aG)(p:Nat)(f:Addr)(j:Addr)(h:aI)(K:VP):Prop:=
 ∃ (g:LP) (k:LN),g [I 0] h/\
 ∀ a d,g [I a] d->∃ (q:OA) (l r:Nat),d.cell? f=some (.slice q l r)/\Bd (a<(l:Int)) (∃ (c:Int),d.cell? j=some (I c)/\∃ (s:OA) (b t:Nat),d.cell? f=some (.slice s b t)/\(0<=a/\a<=(b:Int))/\∃ (m:OA) (u n:Nat),d.cell? f=some (.slice m u n)/\(0<=B5 (a+(if ((b-(a.toNat):Nat):Int)<c then ((b-(a.toNat):Nat):Int) else c))/\B5 (a+(if ((b-(a.toNat):Nat):Int)<c then ((b-(a.toNat):Nat):Int) else c))<=(n:Int))/\(0<=B5 (a+(if ((b-(a.toNat):Nat):Int)<c then ((b-(a.toNat):Nat):Int) else c))/\B5 (a+(if ((b-(a.toNat):Nat):Int)<c then ((b-(a.toNat):Nat):Int) else c))<=(((B5 (a+(if ((b-(a.toNat):Nat):Int)<c then ((b-(a.toNat):Nat):Int) else c))).toNat:Nat):Int))/\(0<=a/\a<=(((B5 (a+(if ((b-(a.toNat):Nat):Int)<c then ((b-(a.toNat):Nat):Int) else c))).toNat:Nat):Int))/\YCall P p #[.slice (J9 m ((B5 (a+(if ((b-(a.toNat):Nat):Int)<c then ((b-(a.toNat):Nat):Int) else c))).toNat) (a.toNat) 4) ((B5 (a+(if ((b-(a.toNat):Nat):Int)<c then ((b-(a.toNat):Nat):Int) else c))).toNat-a.toNat) ((B5 (a+(if ((b-(a.toNat):Nat):Int)<c then ((b-(a.toNat):Nat):Int) else c))).toNat-a.toNat)] d (fun v e=>∃ (o:Bool),v= .bool o/\Br (!o) (K (T0) e)
 (∃ (i:Int),e.cell? j=some (I i)/\g [I (B5 (a+i))] e/\k [I (B5 (a+i))] e<k [I a] d)))
 (K (T0) d)
def B1k(a:Nat)(b:Addr)(c:Addr)(hvc:B6j prog a b c h K):aC prog Iw #[.func (.yield a) #[] #[],Pt b,Pt c] h K:=
 fnk func276 { loops:=[(1,⟨[4],[],[I 0],⟨(Lrg 4 27),[]⟩⟩)] } [] [] hvc
def A2h:∀ (args:Array Value) (W:World),(callFunc Iw args).run prog W= .ok (.enter Iw args) W:=call276
def C5o(P:aG)(n:OA)(c E:Nat)(h:aI)(K:VP):Prop:=
 Br ((c:Int)==0) (K (Mv (0:Int) (0:Int) none 0 0) h)
 (∃ s,Ax n s (0:Int) c <| ∃ C p D,Hd h (s.add (((0:Int)).toNat*1)) C p D <| ∃ (j:LP) (o:LN),j [I 0,I (c:Int),I (p:Int),N0] h/\
 ∀ a d e f g i b,j [I a,I d,I e,.slice f g i] b->Bd (a<(c:Int)) (∃ t,Ax n t a c <| ∃ u v w,Hd b (t.add (a.toNat*1)) u v w<|aC P Dm #[Sl u v w] b (fun A q=>∃ x y z,A=Sl x y z/\b.le q/\wpH P (aE #[38,38] 38 #[Sl f g i,Sl x y z]) (fun B r=>∃ k l m,B=Sl k l m/\j [I (B5 (a+1)),I d,I e,.slice k l m] r/\o [I (B5 (a+1)),I d,I e,.slice k l m] r<o [I a,I d,I e,.slice f g i] b) q))
 (K (Mv d e f g i) b))
def B9i a b c(hvc:C5o prog a b c h K):aC prog A71 #[Sl a b c] h K:=
 fnk func84 { loops:=[(5,⟨[4],[(3,3)],[I 0,I 0,I 0,N0],⟨([4]++Lrg 16 15),[3]⟩⟩)] } [2,3] [1000000000] hvc
def C0z(P:aG)(c:Int)(g:Int)(h:aI)(K:VP):Prop:=
 wpH P (aH 56 (I c) (I c)) (fun p q=>∃ e f k,p=Sl e f k/\∃ (d:LP) (i:LN),d [I 0] q/\
 ∀ a b,d [I a] b->Bd (a<c) (wpH P (aH 75 (I g) (I g)) (fun r s=>∃ l m n,r=Sl l m n/\∃ o,Ax e o a f<|wpH P (aD 75 (Pt (o.add (a.toNat*1))) (.slice l m n)) (fun _ j=>d [I (B5 (a+1))] j/\i [I (B5 (a+1))] j<i [I a] b) s) b)
 (K (Sl e f k) b)) h
def B6o a b(hvc:C0z prog a b h K):aC prog A1l #[I a,I b] h K:=
 fnk func115 { loops:=[(3,⟨[6],[],[I 0],⟨([6]++Lrg 9 10),[]⟩⟩)] } [] [] hvc
def C5q(P:aG)(B:OA)(k J:Nat)(h:aI)(K:VP):Prop:=
 ∃ (f:LP) (l:LN),f [N0,I 0] h/\
 ∀ b c d a e,f [.slice b c d,I a] e->Bd (a<(k:Int)) (wpH P (aF 75 0 #[]) (fun C m=>∃ o p q,C=Sl o p q/\∃ r,Ax B r a k <| ∃ s t u,Hd m (r.add (a.toNat*1)) s t u<|wpH P (aE #[75,75] 75 #[Sl o p q,Sl s t u]) (fun D E=>∃ v w x,D=Sl v w x/\wpH P (aF 56 1 #[(0,Sl v w x)]) (fun F G=>∃ y z A,F=Sl y z A/\wpH P (aE #[56,56] 56 #[Sl b c d,Sl y z A]) (fun H n=>∃ g i j,H=Sl g i j/\f [.slice g i j,I (B5 (a+1))] n/\l [.slice g i j,I (B5 (a+1))] n<l [.slice b c d,I a] e) G) E) m) e)
 (K (Sl b c d) e)
def B9k a b c(hvc:C5q prog a b c h K):aC prog A73 #[Sl a b c] h K:=
 fnk func161 { loops:=[(3,⟨[3,4],[],[N0,I 0],⟨(Lrg 3 17),[]⟩⟩)] } [] [] hvc
def C81(P:aG)(a3:OA)(w a8:Nat)(a4:OA)(a5 a9:Nat)(h:aI)(K:VP):Prop:=
 ∃ (l:LP) (x:LN),l [I 0,.bool false,N0,.bool false,N0] h/\
 ∀ a c d e f g i j k b,l [I a,.bool c,.slice d e f,.bool g,.slice i j k] b->Bd (a<(w:Int)) (∃ y,Ax a3 y a w <| ∃ z A B C D E F G,Lq b (y.add (a.toNat*4)) z A B C D E F G <| ∃ H,Ax a4 H a a5 <| ∃ J L M N O Q R S,Lq b (H.add (a.toNat*4)) J L M N O Q R S<|aC P Qt #[Qv z A B C D E F G,Qv J L M N O Q R S] b (fun a6 m=>∃ T V W X Z a0 a1 a2,a6=Qv T V W X Z a0 a1 a2/\b.le m/\aC P A1g #[Qv c d e f g i j k,Qv T V W X Z a0 a1 a2] m (fun a7 n=>∃ o p q r s t u v,a7=Qv o p q r s t u v/\m.le n/\l [I (B5 (a+1)),.bool o,.slice p q r,.bool s,.slice t u v] n/\x [I (B5 (a+1)),.bool o,.slice p q r,.bool s,.slice t u v] n<x [I a,.bool c,.slice d e f,.bool g,.slice i j k] b)))
 (K (Qv c d e f g i j k) b)
def C3h a b c d e f(hvc:C81 prog a b c d e f h K):aC prog A94 #[Sl a b c,Sl d e f] h K:=
 fnk func59 { loops:=[(3,⟨[6],[(5,4)],[I 0,.bool false,N0,.bool false,N0],⟨([6]++Lrg 8 17),[5]⟩⟩)] } [4,5] [] hvc
def C82(P:aG)(x:OA)(c F:Nat)(y:OA)(z A:Nat)(h:aI)(K:VP):Prop:=
 wpH P (aH 75 (I (c:Int)) (I (c:Int))) (fun B C=>∃ e f j,B=Sl e f j/\∃ (d:LP) (g:LN),d [I 0] C/\
 ∀ a b,d [I a] b->Bd (a<(c:Int)) (∃ k,Ax x k a c <| ∃ l m n,Hd b (k.add (a.toNat*1)) l m n<|aC P A94 #[Sl l m n,Sl y z A] b (fun D E=>∃ o p q r s t u v,D=Qv o p q r s t u v/\∃ w,Ax e w a f<|wpH P (aD 81 (Pt (w.add (a.toNat*4))) (Qv o p q r s t u v)) (fun _ i=>d [I (B5 (a+1))] i/\g [I (B5 (a+1))] i<g [I a] b) E))
 (K (Sl e f j) b)) h
def C3i a b c d e f(hvc:C82 prog a b c d e f h K):aC prog A95 #[Sl a b c,Sl d e f] h K:=
 fnk func47 { loops:=[(3,⟨[6],[],[I 0],⟨([6]++Lrg 10 15),[]⟩⟩)] } [] [] hvc
def My(P:aG)(d:OA)(e i:Nat)(b2:Int)(b3:LP)(j:LN)(c:Int)(b4:Bool)(b5:OA)(b6 b7:Nat)(b8:Bool)(b9:OA)(c0 c1:Nat)(c2:aI)(c3:aI):Prop:=
 ∃ (f:LP) (k:LN),f [I b2] c2/\
 ∀ b a,f [I b] a->∃ o,Ax d o c e <| ∃ c6 l c7,Hd a (o.add (c.toNat*1)) c6 l c7<|Bd (b<(l:Int)) (∃ p,Ax d p c e <| ∃ q r c8,Hd a (p.add (c.toNat*1)) q r c8 <| ∃ s,Ax d s c e <| ∃ t u c9,Hd a (s.add (c.toNat*1)) t u c9 <| ∃ v,Ax t v b u <| ∃ w x y z A B C D,Lq a (v.add (b.toNat*4)) w x y z A B C D <| ∃ E,Ax d E (i:Int) e <| ∃ F G d0,Hd a (E.add (((i:Int)).toNat*1)) F G d0 <| ∃ H,Ax F H b G <| ∃ J L M N O Q R S,Lq a (H.add (b.toNat*4)) J L M N O Q R S<|aC P Qt #[Qv b4 b5 b6 b7 b8 b9 c0 c1,Qv J L M N O Q R S] a (fun c4 g=>∃ T V W X Z a0 a1 a2,c4=Qv T V W X Z a0 a1 a2/\a.le g/\aC P A1f #[Qv w x y z A B C D,Qv T V W X Z a0 a1 a2] g (fun c5 m=>∃ a3 a4 a5 a6 a7 a8 a9 b0,c5=Qv a3 a4 a5 a6 a7 a8 a9 b0/\g.le m/\∃ b1,Ax q b1 b r<|wpH P (aD 81 (Pt (b1.add (b.toNat*4))) (Qv a3 a4 a5 a6 a7 a8 a9 b0)) (fun _ n=>f [I (B5 (b+1))] n/\k [I (B5 (b+1))] n<k [I b] a) m)))
 (b3 [I (B5 (c+1))] a/\j [I (B5 (c+1))] a<j [I c] c3)
def Hf(P:aG)(u:OA)(g:Nat)(S:LP)(v:LN)(w:OA)(f x:Nat)(c:Int)(T:Bool)(V:OA)(W X:Nat)(Z:Bool)(a0:OA)(a1 a2:Nat)(y:Bool)(z:OA)(A B:Nat)(C:Bool)(D:OA)(E F:Nat)(a3:aI)(a4:aI):Prop:=
 ∃ (d:LP) (e:LN),d [I 0] a4/\
 ∀ a b,d [I a] b->Bd (a<(g:Int)) (∃ H,Ax u H a g <| ∃ J L a9,Hd b (H.add (a.toNat*1)) J L a9 <| ∃ M,Ax J M c L <| ∃ j k l m n o p q,Lq b (M.add (c.toNat*4)) j k l m n o p q<|Br (a==(f:Int)) (d [I (B5 (a+1))] b/\e [I (B5 (a+1))] b<e [I a] b)
 (aC P Kl #[Qv j k l m n o p q] b (fun a5 i=>∃ N,a5=I N/\Br (N==0) (d [I (B5 (a+1))] i/\e [I (B5 (a+1))] i<e [I a] b)
 (My P u g f c d e a j k l m n o p q i b))))
 (wpH P (aF 70 1 #[(0,I c)]) (fun a6 a7=>∃ O Q R,a6=Sl O Q R/\wpH P (aE #[70,70] 70 #[Sl w f x,Sl O Q R]) (fun a8 G=>∃ r s t,a8=Sl r s t/\S [.slice r s t,I (B5 (c+1)),.bool y,.slice z A B,.bool C,.slice D E F] G/\v [.slice r s t,I (B5 (c+1)),.bool y,.slice z A B,.bool C,.slice D E F] G<v [.slice w f x,I c,.bool T,.slice V W X,.bool Z,.slice a0 a1 a2] a3) a7) b)
def Mz(P:aG)(d:OA)(e:Nat)(M:LP)(N:LN)(O:OA)(c Q:Nat)(R:Int)(S:Bool)(T:OA)(V W:Nat)(X:Bool)(Z:OA)(a0 a1:Nat)(a2:Bool)(a3:OA)(a4 a5:Nat)(a6:Bool)(a7:OA)(a8 a9:Nat)(b0:Bool)(b1:OA)(b2 b3:Nat)(b4:Bool)(b5:OA)(b6 b7:Nat)(b8:aI)(b9:aI):Prop:=
 ∃ (f:LP) (g:LN),f [I 0] b8/\
 ∀ a b,f [I a] b->∃ l,Ax d l (c:Int) e <| ∃ c1 i c2,Hd b (l.add (((c:Int)).toNat*1)) c1 i c2<|Bd (a<(i:Int)) (∃ m,Ax d m (c:Int) e <| ∃ n o c3,Hd b (m.add (((c:Int)).toNat*1)) n o c3 <| ∃ p,Ax d p (c:Int) e <| ∃ q r c4,Hd b (p.add (((c:Int)).toNat*1)) q r c4 <| ∃ s,Ax q s a r <| ∃ t u v w x y z A,Lq b (s.add (a.toNat*4)) t u v w x y z A<|aC P A6z #[Qv t u v w x y z A,Qv a2 a3 a4 a5 a6 a7 a8 a9] b (fun c0 j=>∃ B C D E F G H J,c0=Qv B C D E F G H J/\b.le j/\∃ L,Ax n L a o<|wpH P (aD 81 (Pt (L.add (a.toNat*4))) (Qv B C D E F G H J)) (fun _ k=>f [I (B5 (a+1))] k/\g [I (B5 (a+1))] k<g [I a] b) j))
 (Hf P d e M N O c Q R S T V W X Z a0 a1 b0 b1 b2 b3 b4 b5 b6 b7 b9 b)
def Na(P:aG)(m:OA)(n:Nat)(A:LP)(B:LN)(C:OA)(a D:Nat)(b:Int)(E:Bool)(F:OA)(G H:Nat)(J:Bool)(L:OA)(M N:Nat)(O:Bool)(Q:OA)(R S:Nat)(T:Bool)(V:OA)(W X:Nat)(Z:aI)(c:aI):Prop:=
 ∃ o,Ax m o (a:Int) n <| ∃ p q a2,Hd c (o.add (((a:Int)).toNat*1)) p q a2 <| ∃ r,Ax p r b q <| ∃ d e f g i j k l,Lq c (r.add (b.toNat*4)) d e f g i j k l<|aC P Qt #[Qv O Q R S T V W X,Qv d e f g i j k l] c (fun a0 a1=>∃ s t u v w x y z,a0=Qv s t u v w x y z/\Mz P m n A B C a D b E F G H J L M N d e f g i j k l s t u v w x y z a1 Z)
def Nb(P:aG)(e:OA)(b:Nat)(t:LP)(r:LN)(f:OA)(a g:Nat)(i:Int)(j:Bool)(k:OA)(l m:Nat)(n:Bool)(o:OA)(p q:Nat)(c:Int)(u:aI)(d:aI):Prop:=
 Br (c==(b:Int)) (t [.slice f a g,I (B5 (i+1)),.bool false,N0,.bool false,N0] d/\r [.slice f a g,I (B5 (i+1)),.bool false,N0,.bool false,N0] d<r [.slice f a g,I i,.bool j,.slice k l m,.bool n,.slice o p q] u)
 (∃ (s:LP),(Br (c != (a:Int)) (∃ v,Ax e v (a:Int) b <| ∃ w x y,Hd d (v.add (((a:Int)).toNat*1)) w x y <| ∃ z,Ax e z c b <| ∃ A B C,Hd d (z.add (c.toNat*1)) A B C <| ∃ D,Ax e D c b<|wpH P (aD 75 (Pt (D.add (c.toNat*1))) (.slice w x y)) (fun _ a1=>∃ E,Ax e E (a:Int) b<|wpH P (aD 75 (Pt (E.add (((a:Int)).toNat*1))) (.slice A B C)) (fun _ a2=>aC P Vj #[Qv j k l m n o p q] a2 (fun a3 a4=>∃ F G H J L M N O,a3=Qv F G H J L M N O/\s [.bool F,.slice G H J,.bool L,.slice M N O] a4)) a1) d)
 (s [.bool j,.slice k l m,.bool n,.slice o p q] d))/\
 ∀ Q R S T V W X Z a0,s [.bool Q,.slice R S T,.bool V,.slice W X Z] a0->Na P e b t r f a g i j k l m n o p q Q R S T V W X Z u a0)
def A9t(P:aG)(a1:OA)(a2 a3:Nat)(t:Int)(h:aI)(K:VP):Prop:=
 aC P A73 #[Sl a1 a2 a3] h (fun a5 a6=>∃ d b j,a5=Sl d b j/\aC P C5w #[I 1] a6 (fun a7 a8=>∃ z A B C D E F G,a7=Qv z A B C D E F G/\∃ (u:LP) (a4:LN),u [N0,I 0,.bool z,.slice A B C,.bool D,.slice E F G] a8/\
 ∀ f a g k l m n o p q r s e,u [.slice f a g,I k,.bool l,.slice m n o,.bool p,.slice q r s] e->Bd (k<t) (Bd ((a:Int)<(b:Int)) (∃ (v:LP),(∃ (w:LP) (y:LN),w [I (a:Int)] e/\
 ∀ c i,w [I c] i->Bd (c<(b:Int)) (∃ H,Ax d H c b <| ∃ J L b0,Hd i (H.add (c.toNat*1)) J L b0 <| ∃ M,Ax J M k L <| ∃ N O Q R S T V W,Lq i (M.add (k.toNat*4)) N O Q R S T V W<|aC P Kl #[Qv N O Q R S T V W] i (fun a9 x=>∃ X,a9=I X/\Br (X==0) (w [I (B5 (c+1))] x/\y [I (B5 (c+1))] x<y [I c] i)
 (v [I c] x)))
 (v [I c] i))/\
 ∀ Z a0,v [I Z] a0->Nb P d b u a4 f a g k l m n o p q r s Z e a0)
 (Bd ((a:Int)<t) (K (.tuple #[Sl d b j,Sl f a g,Qv false none 0 0 false none 0 0]) e)
 (K (.tuple #[Sl d b j,Sl f a g,Qv l m n o p q r s]) e)))
 (Bd ((a:Int)<t) (K (.tuple #[Sl d b j,Sl f a g,Qv false none 0 0 false none 0 0]) e)
 (K (.tuple #[Sl d b j,Sl f a g,Qv l m n o p q r s]) e))))
def A7v a b c d(hvc:A9t prog a b c d h K):aC prog Kn #[Sl a b c,I d] h K:=
 fnk func132 ⟨[(5,⟨[8,10],[(9,4)],[N0,I 0,.bool false,N0,.bool false,N0],⟨([8]++Lrg 10 8++Lrg 21 148),[9,13,16]⟩⟩),(9,⟨[12],[],[I 0],⟨([12]++Lrg 36 17),[]⟩⟩),(19,⟨[14],[],[I 0],⟨([14]++Lrg 87 24),[]⟩⟩),(23,⟨[15],[],[I 0],⟨([15,16,17]++Lrg 111 54),[16]⟩⟩),(28,⟨[17],[],[I 0],⟨([17]++Lrg 133 32),[]⟩⟩)],[(11,⟨[12],[],[I 0],⟨([12]++Lrg 36 17),[]⟩⟩),(16,⟨[],[(9,4)],[.bool false,N0,.bool false,N0],⟨(Lrg 58 19),[9]⟩⟩)],[],[],[]⟩ [6,9,13,16] [] hvc
def C5p(P:aG)(x:OA)(y c3:Nat)(h:aI)(K:VP):Prop:=
 ∃ F,Ax x F (0:Int) y <| ∃ e5 j e6,Hd h (F.add (((0:Int)).toNat*1)) e5 j e6<|aC P Kn #[Sl x y c3,I (j:Int)] h (fun d4 d5=>∃ (z:OA) (A c4:Nat) (p:OA) (k c5:Nat) (c6:Bool) (c7:OA) (c8 c9:Nat) (d0:Bool) (d1:OA) (d2 d3:Nat),d4= .tuple #[Sl z A c4,Sl p k c5,Qv c6 c7 c8 c9 d0 d1 d2 d3]/\∃ (l:LP) (m:LN),l [N0,I 0,I 0] d5/\
 ∀ f g i b a c,l [.slice f g i,I b,I a] c->Bd (a<(j:Int)) (∃ (q:LP),(Bd (b<(k:Int)) (∃ G,Ax p G b k <| ∃ H,c.cell? (G.add (b.toNat*1))=some (I H)/\Br (H==a) (l [.slice f g i,I (B5 (b+1)),I (B5 (a+1))] c/\m [.slice f g i,I (B5 (b+1)),I (B5 (a+1))] c<m [.slice f g i,I b,I a] c)
 (q [I b] c))
 (q [I b] c))/\
 ∀ s J,q [I s] J->wpH P (aH 75 (I (j:Int)) (I (j:Int))) (fun d6 d7=>∃ n o L,d6=Sl n o L/\aC P C5w #[I 1] d7 (fun d8 d9=>∃ M N O Q R S T V,d8=Qv M N O Q R S T V/\∃ W,Ax n W a o<|wpH P (aD 81 (Pt (W.add (a.toNat*4))) (Qv M N O Q R S T V)) (fun _ e0=>∃ (r:LP) (B:LN),r [I 0] e0/\
 ∀ d e,r [I d] e->Bd (d<(k:Int)) (∃ X,Ax p X d k <| ∃ t,e.cell? (X.add (d.toNat*1))=some (I t)/\∃ Z,Ax z Z d A <| ∃ a0 a1 e7,Hd e (Z.add (d.toNat*1)) a0 a1 e7 <| ∃ a2,Ax a0 a2 a a1 <| ∃ a3 a4 a5 a6 a7 a8 a9 b0,Lq e (a2.add (a.toNat*4)) a3 a4 a5 a6 a7 a8 a9 b0<|aC P Vj #[Qv a3 a4 a5 a6 a7 a8 a9 b0] e (fun e1 C=>∃ b1 b2 b3 b4 b5 b6 b7 b8,e1=Qv b1 b2 b3 b4 b5 b6 b7 b8/\e.le C/\∃ b9,Ax n b9 t o<|wpH P (aD 81 (Pt (b9.add (t.toNat*4))) (Qv b1 b2 b3 b4 b5 b6 b7 b8)) (fun _ D=>r [I (B5 (d+1))] D/\B [I (B5 (d+1))] D<B [I d] e) C))
 (wpH P (aF 56 1 #[(0,Sl n o L)]) (fun e2 e3=>∃ c0 c1 c2,e2=Sl c0 c1 c2/\wpH P (aE #[56,56] 56 #[Sl f g i,Sl c0 c1 c2]) (fun e4 E=>∃ u v w,e4=Sl u v w/\l [.slice u v w,I s,I (B5 (a+1))] E/\m [.slice u v w,I s,I (B5 (a+1))] E<m [.slice f g i,I b,I a] c) e3) e)) d9)) J)
 (K (Sl f g i) c))
def B9j a b c(hvc:C5p prog a b c h K):aC prog A72 #[Sl a b c] h K:=
 fnk func57 ⟨[(6,⟨[7,8,9],[],[N0,I 0,I 0],⟨([7,8,9,10,11]++Lrg 23 49),[]⟩⟩),(13,⟨[11],[],[I 0],⟨([11]++Lrg 48 20),[]⟩⟩)],[(10,⟨[8],[],[I 0],⟨([8]++Lrg 28 14),[]⟩⟩)],[],[],[]⟩ [6] [] hvc
