/- A part. -/
import Derived.Test.YtmbfcbbkbefgfaaGreatDoorG13
import Derived.Test.YtmbfcbbkbefgfaaGreatDoorG10
import Derived.Test.YtmbfcbbkbefgfaaGreatDoorG26
import Derived.Test.YtmbfcbbkbefgfaaGreatDoorG09
open Go.Proofs.Tryz
set_option linter.all false
open _root_.Go.Addr renaming add->aJ
open _root_.Go.Builtin renaming append_->aD
open _root_.Go.Instr renaming storeAt->aE,buildSlice->aF,makeSlice->aH,alloc->aK
open _root_.Go renaming Program->aG
open _root_.Go.Proofs.YtmbfcbbkbefgfaaGreatDoor renaming FCall->aC,Heap->aI
namespace Go.Proofs.YtmbfcbbkbefgfaaGreatDoor
open Go
set_option maxRecDepth 100000
variable {h:aI} {K:VP}
abbrev Qh:Nat:=100
abbrev Ey:Nat:=87
abbrev K6:Nat:=235
abbrev Ih:Nat:=201
abbrev C59:Nat:=211
abbrev Lu:Nat:=233
abbrev Ij:Nat:=156
abbrev Om:Nat:=175
abbrev B9h:Nat:=120
abbrev B3p:Nat:=98
abbrev Qn:Nat:=179
abbrev A8d:Nat:=97
abbrev C5b:Nat:=101
abbrev Ik:Nat:=182
abbrev Jw:Nat:=176
abbrev Qm:Nat:=95
abbrev C5a:Nat:=124
abbrev C3r:Nat:=214
abbrev B7p:Nat:=213
abbrev Ci:Nat:=177
abbrev A1c:Nat:=178
abbrev Ae:Nat:=163
abbrev Y9:Nat:=165
abbrev A1j:Nat:=237
abbrev A6n:Nat:=246
abbrev Tm:Nat:=172
abbrev Is:Nat:=174
abbrev Tj:Nat:=234
abbrev Il:Nat:=276
abbrev A6m:Nat:=61
abbrev Lw:Nat:=84
abbrev On:Nat:=115
abbrev Vi:Nat:=162
abbrev Vl:Nat:=161
abbrev Vj:Nat:=83
abbrev Jz:Nat:=82
abbrev C6w:Nat:=59
abbrev C6x:Nat:=47
abbrev Ka:Nat:=132
abbrev Vk:Nat:=99
abbrev C64:Nat:=57
abbrev C1o:Nat:=126
abbrev Tk:Nat:=31
abbrev B6g:Nat:=30
abbrev Co:Nat:=80
abbrev Gm:Nat:=29
abbrev B3q:Nat:=40
abbrev Ku:Nat:=265
abbrev Tt:Nat:=225
abbrev Pr:Nat:=135
abbrev C5h:Nat:=41
abbrev C5g:Nat:=235
abbrev Fp:Nat:=70
abbrev F9:Nat:=3
def C37:SliceT prog Fp F9 (I 0) 1 8:=⟨by kernel_rfl,by kernel_rfl,rfl,by decide⟩
abbrev T8:Nat:=128
abbrev G2:Nat:=145
def A9g:SliceT prog T8 G2 (Qv false none 0 0 false none 0 0) 4 64:=⟨by kernel_rfl,by kernel_rfl,rfl,by decide⟩
def Nf:prog.cellsOf G2=4/\(prog.info? G2).isSome=true:=⟨by kernel_rfl,by kernel_rfl⟩
abbrev Rk:Nat:=220
abbrev Fn:Nat:=138
def tZs:SliceT prog Rk Fn (Zv false none 0 0) 2 32:=⟨by kernel_rfl,by kernel_rfl,rfl,by decide⟩
def Ua:prog.cellsOf Fn=2/\(prog.info? Fn).isSome=true:=⟨by kernel_rfl,by kernel_rfl⟩
abbrev L9:Nat:=56
abbrev F8:Nat:=75
def B6w:SliceT prog L9 F8 (N0) 1 24:=⟨by kernel_rfl,by kernel_rfl,rfl,by decide⟩
def Ta:prog.cellsOf F8=1/\(prog.info? F8).isSome=true:=⟨by kernel_rfl,by kernel_rfl⟩
abbrev My:Nat:=231
abbrev Yd:Nat:=235
def C5l:SliceT prog My Yd (.agg #[Sl none 0 0,.bool false,Sl none 0 0]) 3 56:=⟨by kernel_rfl,by kernel_rfl,rfl,by decide⟩
abbrev C33:Nat:=314
abbrev C0u:Nat:=38
def A8v(P:aG)(x:OA)(c B:Nat)(h:aI)(K:VP):Prop:=
 wpH P (aH 128 (I (c:Int)) (I (c:Int))) (fun y z=>∃ e f u,y=Sl e f u/\∃ (d:LP) (g:LN),d [I 0] z/\
 ∀ a b,d [I a] b->Bd (a<(c:Int)) (∃ v,Ax x v a c <| ∃ (i:ByteArray),b.cell? (v.add (a.toNat*1))=some (.string i)/\aC P A6j #[.string i] b (fun A s=>∃ (j:Bool) (k:OA) (l m:Nat) (n:Bool) (o:OA) (p q:Nat) (r:Bool),A= .tuple #[Qv j k l m n o p q,.bool r]/\Br (!r) (K (.tuple #[Sl none 0 0,.bool false]) s)
 (∃ w,Ax e w a f<|wpH P (aE 145 (.pointer (some (w.add (a.toNat*4)))) (Qv j k l m n o p q)) (fun _ t=>d [I (B7 (a+1))] t/\g [I (B7 (a+1))] t<g [I a] b) s)))
 (K (.tuple #[Sl e f u,.bool true]) b)) h
def A72 a b c(hvc:A8v prog a b c h K):aC prog Qh #[Sl a b c] h K:=
 fnk func100 { loops:=[(3,⟨[14],[],[I 0],⟨([2,3,5,6,7,8]++Lrg 14 17),[7]⟩⟩)] } [7] [] hvc
def A8u(P:aG)(v:OA)(c A:Nat)(h:aI)(K:VP):Prop:=
 wpH P (aH 38 (I (c:Int)) (I (c:Int))) (fun w x=>∃ e f k,w=Sl e f k/\∃ (d:LP) (g:LN),d [I 0] x/\
 ∀ a b,d [I a] b->Bd (a<(c:Int)) (∃ l,Ax v l a c <| ∃ m n o p q r s t,Lq b (l.add (a.toNat*4)) m n o p q r s t<|aC P Vf #[Qv m n o p q r s t] b (fun y z=>∃ (i:ByteArray),y= .string i/\∃ u,Ax e u a f<|wpH P (aE 9 (.pointer (some (u.add (a.toNat*1)))) (.string i)) (fun _ j=>d [I (B7 (a+1))] j/\g [I (B7 (a+1))] j<g [I a] b) z))
 (K (Sl e f k) b)) h
def A71 a b c(hvc:A8u prog a b c h K):aC prog Ey #[Sl a b c] h K:=
 fnk func87 { loops:=[(3,⟨[11],[],[I 0],⟨([4,5]++Lrg 11 11),[5]⟩⟩)] } [5] [] hvc
def Dw(P:aG)(C:OA)(t O:Nat)(h:aI)(K:VP):Prop:=
 aC P Rs #[I 1] h (fun D E=>∃ x y z A,D=Zv x y z A/\∃ (i:LP) (g:LN),i [I 0,.bool x,.slice y z A] E/\
 ∀ a b c d e f,i [I a,.bool b,.slice c d e] f->Bd (a<(t:Int)) (∃ B,Ax C B a t <| ∃ J L M N j k l m,Lq f (B.add (a.toNat*4)) J L M N j k l m<|aC P F0 #[Zv j k l m] f (fun F n=>∃ (u:Bool),F= .bool u/\Br (!u) (aC P A14 #[Zv j k l m,Zv b c d e] n (fun G o=>∃ (v:Bool),G= .bool v/\Br (!v) (aC P A88 #[Zv b c d e,Zv j k l m] o (fun H w=>∃ p q r s,H=Zv p q r s/\i [I (B7 (a+1)),.bool p,.slice q r s] w/\g [I (B7 (a+1)),.bool p,.slice q r s] w<g [I a,.bool b,.slice c d e] f))
 (i [I (B7 (a+1)),.bool b,.slice c d e] o/\g [I (B7 (a+1)),.bool b,.slice c d e] o<g [I a,.bool b,.slice c d e] f)))
 (i [I (B7 (a+1)),.bool b,.slice c d e] n/\g [I (B7 (a+1)),.bool b,.slice c d e] n<g [I a,.bool b,.slice c d e] f)))
 (K (Zv b c d e) f))
def Jh a b c(hvc:Dw prog a b c h K):aC prog K6 #[Sl a b c] h K:=
 fnk func235 { loops:=[(3,⟨[9],[(3,2)],[I 0,.bool false,N0],⟨([5]++Lrg 9 20),[3,5]⟩⟩)] } [2,3,5] [] hvc
def B57(P:aG)(c:Bool)(d:OA)(e f:Nat)(g:Bool)(i:OA)(j k:Nat)(l:Bool)(m:OA)(n o:Nat)(h:aI)(K:VP):Prop:=
 aC P F0 #[Zv g i j k] h (fun D a=>∃ (p:Bool),D= .bool p/\Br p (aC P Bw #[Zv c d e f,Zv l m n o] a (fun E F=>∃ r s t u,E=Zv r s t u/\K (Zv r s t u) F))
 (aC P Ew #[Zv l m n o,Zv g i j k] a (fun G b=>∃ v w x y,G=Zv v w x y/\a.le b/\aC P Bw #[Zv c d e f,Zv v w x y] b (fun H q=>∃ z A B C,H=Zv z A B C/\b.le q/\K (Zv z A B C) q))))
def B0t a b c d e f g i j k l m(hvc:B57 prog a b c d e f g i j k l m h K):aC prog Ih #[Qv a b c d e f g i,Zv j k l m] h K:=
 fnk func201 an0 [2,3,4] [] hvc
def A4z(P:aG)(a:Int)(b:Int)(d:OA)(c e:Nat)(h:aI)(K:VP):Prop:=
 Bd ((1:Int)<=a) (Bd (a<=(64:Int)) (Bd ((1:Int)<=b) (Bd (b<=(64:Int)) (K (.bool ((c:Int)==(B7 (a*b)))) h)
 (K (.bool false) h))
 (K (.bool false) h))
 (K (.bool false) h))
 (K (.bool false) h)
def A4y a b c d e(hvc:A4z prog a b c d e h K):aC prog Lu #[Mv a b c d e] h K:=
 fnk func233 an0 [1] [] hvc
def C4p(P:aG)(k:Int)(l:Int)(a:OA)(b c:Nat)(h:aI)(K:VP):Prop:=
 aC P Lu #[Mv k l a b c] h (fun m j=>∃ (d:Bool),m= .bool d/\Br (!d) (K (.tuple #[Sl none 0 0,.bool false]) j)
 (aC P Qh #[Sl a b c] j (fun n o=>∃ (e:OA) (f g:Nat) (i:Bool),n= .tuple #[Sl e f g,.bool i]/\K (.tuple #[Sl e f g,.bool i]) o)))
def B8p a b c d e(hvc:C4p prog a b c d e h K):aC prog Ij #[Mv a b c d e] h K:=
 fnk func156 an0 [1] [] hvc
def C0a(P:aG)(d:Int)(e:Int)(f:OA)(g i:Nat)(h:aI)(K:VP):Prop:=
 aC P Ey #[Sl f g i] h (fun j k=>∃ a b c,j=Sl a b c/\K (Mv d e a b c) k)
def B5n a b c d e(hvc:C0a prog a b c d e h K):aC prog Om #[I a,I b,Sl c d e] h K:=
 fnk func175 an0 [6] [] hvc
def C7i(P:aG)(g:Int)(i:Int)(j:OA)(k l:Nat)(m:Int)(n:Int)(o:OA)(p q:Nat)(h:aI)(K:VP):Prop:=
 aC P Qn #[Mv g i j k l,Mv m n o p q,.func (.func 180) #[] #[]] h (fun r s=>∃ (a:Int) (b:Int) (c:OA) (d e:Nat) (f:Int),r= .tuple #[Mv a b c d e,I f]/\K (.tuple #[Mv a b c d e,I f]) s)
def C2n a b c d e f g i j k(hvc:C7i prog a b c d e f g i j k h K):aC prog B3p #[Mv a b c d e,Mv f g i j k] h K:=
 fnk func98 an0 [2,3,4] [] hvc
def C7j(P:aG)(q:Int)(c:Int)(c9:OA)(d0 d1:Nat)(j:Int)(k:Int)(d2:OA)(d3 d4:Nat)(h:aI)(K:VP):Prop:=
 aC P Ij #[Mv q c c9 d0 d1] h (fun d5 d6=>∃ (z:OA) (A B:Nat) (C:Bool),d5= .tuple #[Sl z A B,.bool C]/\aC P Ij #[Mv j k d2 d3 d4] d6 (fun d7 l=>∃ (D:OA) (E F:Nat) (G:Bool),d7= .tuple #[Sl D E F,.bool G]/\Br (!C) (K (.tuple #[Mv (0:Int) (0:Int) none 0 0,I 1]) l)
 (Br (!G) (K (.tuple #[Mv (0:Int) (0:Int) none 0 0,I 1]) l)
 (Br (c != j) (K (.tuple #[Mv (0:Int) (0:Int) none 0 0,I 4]) l)
 (aC P Jw #[Sl z A B,I c] l (fun d8 a7=>∃ b0 s f0,d8=Sl b0 s f0/\aC P Ci #[Sl D E F,I j,I k] a7 (fun d9 v=>∃ b1 b2 b3,d9=Sl b1 b2 b3/\a7.le v/\aC P Jw #[Sl b1 b2 b3,I j] v (fun e0 a8=>∃ b4 u f1,e0=Sl b4 u f1/\v.le a8/\wpH P (aH 128 (I 0) (I (B7 (q*k)))) (fun e1 e2=>∃ b5 b6 b7,e1=Sl b5 b6 b7/\∃ (r:LP) (H:LN),r [.slice b5 b6 b7,I 0] e2/\
 ∀ m n o a e,r [.slice m n o,I a] e->Bd (a<(s:Int)) (∃ p,Ax b0 p a s <| ∃ (J:OA) (L M:Nat) (N:Bool) (O:OA) (Q R:Nat),e.cell? (aJ (p.add (a.toNat*3)) 0)=some (.slice J L M)/\e.cell? (aJ (p.add (a.toNat*3)) 1)=some (.bool N)/\e.cell? (aJ (p.add (a.toNat*3)) 2)=some (.slice O Q R)/\∃ (t:LP) (S:LN),t [.slice m n o,I 0] e/\
 ∀ f g i b d,t [.slice f g i,I b] d->Bd (b<(u:Int)) (∃ c,Ax b4 c b u <| ∃ (T:OA) (V W:Nat) (X:Bool) (Z:OA) (a0 a1:Nat),d.cell? (aJ (c.add (b.toNat*3)) 0)=some (.slice T V W)/\d.cell? (aJ (c.add (b.toNat*3)) 1)=some (.bool X)/\d.cell? (aJ (c.add (b.toNat*3)) 2)=some (.slice Z a0 a1)/\aC P A1c #[.agg #[Sl J L M,.bool N,Sl O Q R],.agg #[Sl T V W,.bool X,Sl Z a0 a1]] d (fun e3 e4=>∃ b8 b9 c0 c1 c2 c3 c4 c5,e3=Qv b8 b9 c0 c1 c2 c3 c4 c5/\wpH P (aF 128 1 #[(0,Qv b8 b9 c0 c1 c2 c3 c4 c5)]) (fun e5 e6=>∃ c6 c7 c8,e5=Sl c6 c7 c8/\wpH P (aD #[128,128] 128 #[Sl f g i,Sl c6 c7 c8]) (fun e7 a9=>∃ w x y,e7=Sl w x y/\t [.slice w x y,I (B7 (b+1))] a9/\S [.slice w x y,I (B7 (b+1))] a9<S [.slice f g i,I b] d) e6) e4))
 (r [.slice f g i,I (B7 (a+1))] d/\H [.slice f g i,I (B7 (a+1))] d<H [.slice m n o,I a] e))
 (aC P Om #[I q,I k,Sl m n o] e (fun e8 e9=>∃ (a2:Int) (a3:Int) (a4:OA) (a5 a6:Nat),e8=Mv a2 a3 a4 a5 a6/\K (.tuple #[Mv a2 a3 a4 a5 a6,I 0]) e9))) a8))))))))
def C2o a b c d e f g i j k(hvc:C7j prog a b c d e f g i j k h K):aC prog A8d #[Mv a b c d e,Mv f g i j k] h K:=
 fnk func97 ⟨[(11,⟨[12,61],[],[N0,I 0],⟨([12,14,16]++Lrg 61 18),[14,16]⟩⟩),(14,⟨[12,67],[],[N0,I 0],⟨([12,16]++Lrg 67 11),[16]⟩⟩)],[],[(8,([0,1,2,3,4,6,7,5,8,9],[]))],[],[]⟩ [2,3,4,14,16] [] hvc
def Zr(P:aG)(f:OA)(a x:Nat)(h:aI)(K:VP):Prop:=
 (wpH P (aH 220 (I (a:Int)) (I (a:Int))) (fun b5 j=>∃ l m G,b5=Sl l m G/\h.le j/\aC P K6 #[Sl f a x] j (fun b6 A=>∃ n o p q,b6=Zv n o p q/\j.le A/\∃ (g:LP) (y:LN),g [I 0] A/\
 ∀ b d,g [I b] d->Bd (b<(a:Int)) (∃ H,Ax f H b a <| ∃ J L M N O Q R S,Lq d (H.add (b.toNat*4)) J L M N O Q R S<|aC P Ih #[Qv J L M N O Q R S,Zv n o p q] d (fun b7 B=>∃ T V W X,b7=Zv T V W X/\d.le B/\∃ Z,Ax l Z b m<|wpH P (aE 138 (.pointer (some (Z.add (b.toNat*2)))) (Zv T V W X)) (fun _ C=>g [I (B7 (b+1))] C/\y [I (B7 (b+1))] C<y [I b] d) B))
 (K (.agg #[Sl l m G,.bool n,Sl o p q]) d))) h)/\(aC P K6 #[Sl f a x] h (fun b8 k=>∃ r s t u,b8=Zv r s t u/\h.le k/\wpH P (aH 220 (I (a:Int)) (I (a:Int))) (fun b9 D=>∃ v w a0,b9=Sl v w a0/\k.le D/\∃ (i:LP) (z:LN),i [I 0] D/\
 ∀ c e,i [I c] e->Bd (c<(a:Int)) (∃ a1,Ax f a1 c a <| ∃ a2 a3 a4 a5 a6 a7 a8 a9,Lq e (a1.add (c.toNat*4)) a2 a3 a4 a5 a6 a7 a8 a9<|aC P Ih #[Qv a2 a3 a4 a5 a6 a7 a8 a9,Zv r s t u] e (fun c0 E=>∃ b0 b1 b2 b3,c0=Zv b0 b1 b2 b3/\e.le E/\∃ b4,Ax v b4 c w<|wpH P (aE 138 (.pointer (some (b4.add (c.toNat*2)))) (Zv b0 b1 b2 b3)) (fun _ F=>i [I (B7 (c+1))] F/\z [I (B7 (c+1))] F<z [I c] e) E))
 (K (.agg #[Sl v w a0,.bool r,Sl s t u]) e)) k))
def A27 a b c(hvc:Zr prog a b c h K):aC prog Ik #[Sl a b c] h K:=
 fnk func182 ⟨[(3,⟨[14],[],[I 0],⟨([4,5]++Lrg 14 14),[5]⟩⟩)],[],[(1,([0,1,3,6,2,4,5,7],[]))],[],[(1,[(2,[4])])]⟩ [2,3,5] [] hvc
def A90(P:aG)(D:OA)(E F:Nat)(G:Int)(h:aI)(K:VP):Prop:=
 wpH P (aK 231 true (.tuple #[])) (fun L M=>∃ (a:Addr),L= .pointer (some a)/\aC P Tj #[Sl D E F,I G] M (fun N O=>∃ (d:Value),N=d/\A4s P (d) O (fun (H:List Value) (b:aI) (J:aI->Prop)=>∃ (e:OA) (f g:Nat),H=[.slice e f g]/\∃ (i:OA) (j k:Nat),b.cell? a=some (.slice i j k)/\aC P Ik #[Sl e f g] b (fun Q c=>∃ (l:OA) (m n:Nat) (o:Bool) (p:OA) (q r:Nat),Q= .agg #[Sl l m n,.bool o,Sl p q r]/\b.le c/\wpH P (aF 231 1 #[(0,.agg #[Sl l m n,.bool o,Sl p q r])]) (fun R v=>∃ x y z,R=Sl x y z/\c.le v/\wpH P (aD #[231,231] 231 #[Sl i j k,Sl x y z]) (fun S T=>∃ A B C,S=Sl A B C/\wpH P (aE 231 (.pointer (some a)) (.slice A B C)) (fun _ V=>J V) T) v) c))
 (fun w=>∃ (s:OA) (t u:Nat),w.cell? a=some (.slice s t u)/\K (Sl s t u) w))) h
def A77 a b c d(hvc:A90 prog a b c d h K):aC prog Jw #[Sl a b c,I d] h K:=
 fnk func176 { rounds:=[(4,[N0])] } [] [1000000000] hvc
def A91(P:aG)(a:Int)(G:Int)(d8:OA)(d9 e0:Nat)(h:aI)(K:VP):Prop:=
 aC P Ij #[Mv a G d8 d9 e0] h (fun e5 x=>∃ (H:OA) (e1 j:Nat) (J:Bool),e5= .tuple #[Sl H e1 j,.bool J]/\Br (!J) (K (.tuple #[Mv (0:Int) (0:Int) none 0 0,I 1]) x)
 (Br (a != G) (K (.tuple #[Mv (0:Int) (0:Int) none 0 0,I 4]) x)
 (∃ (t:LP) (L:LN),t [N0,I 0] x/\
 ∀ l m n b o,t [.slice l m n,I b] o->Bd (b<a) ((0<=B7 ((B7 (b+1))*a)/\B7 ((B7 (b+1))*a)<=(j:Int))/\(0<=B7 (b*a)/\B7 (b*a)<=(((B7 ((B7 (b+1))*a)).toNat:Nat):Int))/\wpH P (aD #[128,128] 128 #[Sl l m n,.slice (H9 H j ((B7 (b*a)).toNat) 4) (((B7 ((B7 (b+1))*a)).toNat)-((B7 (b*a)).toNat)) (j-((B7 (b*a)).toNat))]) (fun e6 e7=>∃ a4 a5 a6,e6=Sl a4 a5 a6/\wpH P (aH 128 (I a) (I a)) (fun e8 e9=>∃ y z a7,e8=Sl y z a7/\aC P Tf #[I 1] e9 (fun f0 f1=>∃ a8 a9 b0 b1 b2 b3 b4 b5,f0=Qv a8 a9 b0 b1 b2 b3 b4 b5/\∃ b6,Ax y b6 b z<|wpH P (aE 145 (.pointer (some (b6.add (b.toNat*4)))) (Qv a8 a9 b0 b1 b2 b3 b4 b5)) (fun _ f2=>wpH P (aD #[128,128] 128 #[Sl a4 a5 a6,Sl y z a7]) (fun f3 a1=>∃ A B C,f3=Sl A B C/\t [.slice A B C,I (B7 (b+1))] a1/\L [.slice A B C,I (B7 (b+1))] a1<L [.slice l m n,I b] o) f2) f1)) e7) o)
 (aC P Ae #[Sl l m n,I (B7 ((2:Int)*a))] o (fun f4 f5=>∃ (u:OA),f4= .pointer u/\aC P Is #[.pointer u,I a] f5 (fun f6 a2=>∃ (e2:OA) (M e3:Nat) (N:Bool) (O:OA) (Q R:Nat) (e4:Int),f6= .tuple #[Sl e2 M e3,Zv N O Q R,I e4]/\Bd ((M:Int)<a) (K (.tuple #[Mv (0:Int) (0:Int) none 0 0,I 7]) a2)
 (wpH P (aH 128 (I 0) (I (B7 (a*a)))) (fun f7 f8=>∃ b7 b8 b9,f7=Sl b7 b8 b9/\∃ (v:LP) (S:LN),v [.slice b7 b8 b9,I 0] f8/\
 ∀ p q r d s,v [.slice p q r,I d] s->Bd (d<a) (aC P Y9 #[.pointer u,I d] s (fun f9 g0=>∃ c0 k c1,f9=Sl c0 k c1/\(0<=a/\a<=(k:Int))/\∃ (w:LP) (T:LN),w [.slice p q r,I 0] g0/\
 ∀ f g i c e,w [.slice f g i,I c] e->Bd (c<((k-(a.toNat):Nat):Int)) (∃ c2,H9 c0 c1 (a.toNat) 2=some c2/\0<=c/\c<((k-(a.toNat):Nat):Int)/\∃ c3 c4 c5 c6,Lz e (c2.add (c.toNat*2)) c3 c4 c5 c6<|aC P S0 #[Zv c3 c4 c5 c6,Zv N O Q R] e (fun g1 g2=>∃ c7 c8 c9 d0 d1 d2 d3 d4,g1=Qv c7 c8 c9 d0 d1 d2 d3 d4/\wpH P (aF 128 1 #[(0,Qv c7 c8 c9 d0 d1 d2 d3 d4)]) (fun g3 g4=>∃ d5 d6 d7,g3=Sl d5 d6 d7/\wpH P (aD #[128,128] 128 #[Sl f g i,Sl d5 d6 d7]) (fun g5 a3=>∃ D E F,g5=Sl D E F/\w [.slice D E F,I (B7 (c+1))] a3/\T [.slice D E F,I (B7 (c+1))] a3<T [.slice f g i,I c] e) g4) g2))
 (v [.slice f g i,I (B7 (d+1))] e/\S [.slice f g i,I (B7 (d+1))] e<S [.slice p q r,I d] s)))
 (aC P Om #[I a,I a,Sl p q r] s (fun g6 g7=>∃ (V:Int) (W:Int) (X:OA) (Z a0:Nat),g6=Mv V W X Z a0/\K (.tuple #[Mv V W X Z a0,I 0]) g7))) a2)))))))
def A78 a b c d e(hvc:A91 prog a b c d e h K):aC prog Qm #[Mv a b c d e] h K:=
 fnk func95 { loops:=[(9,⟨[7,35],[],[N0,I 0],⟨([7,8,9]++Lrg 35 24),[]⟩⟩),(22,⟨[14,80],[],[N0,I 0],⟨([14,15,17]++Lrg 80 21),[17]⟩⟩),(25,⟨[14,89],[],[N0,I 0],⟨([14,17]++Lrg 89 11),[17]⟩⟩)] } [1,2,12,17] [174] hvc
def Wz(P:aG)(M:OA)(r V:Nat)(N:Int)(l:Int)(h:aI)(K:VP):Prop:=
 wpH P (aH 128 (I 0) (I (r:Int))) (fun O Q=>∃ v w x,O=Sl v w x/\∃ (m:LP) (s:LN),m [.slice v w x,I 0] Q/\
 ∀ g i j a k,m [.slice g i j,I a] k->Bd (a<l) (∃ (n:LP) (t:LN),n [.slice g i j,I 0] k/\
 ∀ d e f b c,n [.slice d e f,I b] c->Bd (b<N) (∃ y,Ax M y (B7 ((B7 (b*l))+a)) r <| ∃ z A B C D E F G,Lq c (y.add ((B7 ((B7 (b*l))+a)).toNat*4)) z A B C D E F G<|wpH P (aF 128 1 #[(0,Qv z A B C D E F G)]) (fun R S=>∃ H J L,R=Sl H J L/\wpH P (aD #[128,128] 128 #[Sl d e f,Sl H J L]) (fun T u=>∃ o p q,T=Sl o p q/\n [.slice o p q,I (B7 (b+1))] u/\t [.slice o p q,I (B7 (b+1))] u<t [.slice d e f,I b] c) S) c)
 (m [.slice d e f,I (B7 (a+1))] c/\s [.slice d e f,I (B7 (a+1))] c<s [.slice g i j,I a] k))
 (K (Sl g i j) k)) h
def Xy a b c d e(hvc:Wz prog a b c d e h K):aC prog Ci #[Sl a b c,I d,I e] h K:=
 fnk func177 { loops:=[(3,⟨[7,14],[],[N0,I 0],⟨([7,8,9]++Lrg 14 20),[]⟩⟩),(6,⟨[7,18],[],[N0,I 0],⟨([7,9]++Lrg 18 15),[]⟩⟩)] } [] [] hvc
def C0b(P:aG)(N:OA)(g a7:Nat)(O:Bool)(Q:OA)(R S:Nat)(T:OA)(V a8:Nat)(W:Bool)(X:OA)(Z a0:Nat)(h:aI)(K:VP):Prop:=
 wpH P (aK 265 true (.tuple #[])) (fun a1 a2=>∃ (c:Addr),a1= .pointer (some c)/\∃ (d:LP) (i:LN),d [I 0] a2/\
 ∀ a b,d [I a] b->Bd (a<(g:Int)) (∃ l,Ax N l a g <| ∃ m n o p,Lz b (l.add (a.toNat*2)) m n o p <| ∃ q,Ax T q a V <| ∃ r s t u,Lz b (q.add (a.toNat*2)) r s t u<|aC P Y5 #[.pointer (some c),Zv m n o p,Zv r s t u] b (fun a3 j=>a3= .tuple #[]/\d [I (B7 (a+1))] j/\i [I (B7 (a+1))] j<i [I a] b))
 (aC P Tg #[.pointer (some c)] b (fun a4 e=>∃ v w x y,a4=Zv v w x y/\b.le e/\aC P Bw #[Zv O Q R S,Zv W X Z a0] e (fun a5 f=>∃ z A B C,a5=Zv z A B C/\e.le f/\aC P S0 #[Zv v w x y,Zv z A B C] f (fun a6 k=>∃ D E F G H J L M,a6=Qv D E F G H J L M/\f.le k/\K (Qv D E F G H J L M) k))))) h
def B5o a b c d e f g i j k l m n o(hvc:C0b prog a b c d e f g i j k l m n o h K):aC prog A1c #[.agg #[Sl a b c,.bool d,Sl e f g],.agg #[Sl i j k,.bool l,Sl m n o]] h K:=
 fnk func178 ⟨[(3,⟨[11],[],[I 0],⟨([6,7]++Lrg 11 13),[7]⟩⟩)],[],[(7,([1,2,3,4,0,5,6,7],[]))],[],[]⟩ [2,3,4,7] [244] hvc
def A4x(P:aG)(m3:OA)(m4 m5:Nat)(b5:Int)(h:aI)(K:VP):Prop:=
 wpH P (Instr.box 225 (.agg #[I b5,Sl none 0 0,Sl none 0 0])) (fun m8 m9=>∃ (b6:Addr),m8= .pointer (some b6)/\wpH P (aK 135 true (.tuple #[])) (fun n0 n1=>∃ (a:Addr),n0= .pointer (some a)/\wpH P (aE 135 (.pointer (some a)) (.pointer (some b6))) (fun _ n2=>aC P Tj #[Sl m3 m4 m5,I b5] n2 (fun n3 n4=>∃ (b7:Value),n3=b7/\A4s P (b7) n4 (fun (m6:List Value) (m7:aI) (w:aI->Prop)=>∃ (V:OA) (x b8:Nat),m6=[.slice V x b8]/\aC P K6 #[Sl V x b8] m7 (fun n5 Z=>∃ B C D E,n5=Zv B C D E/\∃ (b9:OA),Z.cell? a=some (.pointer b9)/\∃ e6,b9=some e6/\∃ q6 e q7,Hd Z (e6.add 1) q6 e q7 <| ∃ (s:LP) (q:LN),s [I 0,.bool false,N0] Z/\
 ∀ c g i j k l,s [I c,.bool g,.slice i j k] l->Bd (c<(x:Int)) (∃ e7,Ax V e7 c x <| ∃ e8 e9 f0 f1 f2 f3 f4 f5,Lq l (e7.add (c.toNat*4)) e8 e9 f0 f1 f2 f3 f4 f5<|aC P Ih #[Qv e8 e9 f0 f1 f2 f3 f4 f5,Zv B C D E] l (fun n6 n7=>∃ F G H J,n6=Zv F G H J/\aC P Ob #[Zv g i j k,Zv F G H J] n7 (fun n8 f=>∃ m n o p,n8=Zv m n o p/\∃ (c0:OA),f.cell? a=some (.pointer c0)/\∃ f6,c0=some f6/\∃ L M N,Hd f (f6.add 1) L M N<|(∃ (c1:OA),f.cell? a=some (.pointer c1)/\wpH P (aF 220 1 #[(0,Zv F G H J)]) (fun n9 d4=>∃ f7 f8 f9,n9=Sl f7 f8 f9/\f.le d4/\wpH P (aD #[220,220] 220 #[Sl L M N,Sl f7 f8 f9]) (fun o0 o1=>∃ g0 g1 g2,o0=Sl g0 g1 g2/\∃ g3,c1=some g3/\wpH P (aE 220 (.pointer (some (g3.add 1))) (.slice g0 g1 g2)) (fun _ d5=>s [I (B7 (c+1)),.bool m,.slice n o p] d5/\q [I (B7 (c+1)),.bool m,.slice n o p] d5<q [I c,.bool g,.slice i j k] l) o1) d4) f)/\(wpH P (aF 220 1 #[(0,Zv F G H J)]) (fun o2 z=>∃ a1 a2 a3,o2=Sl a1 a2 a3/\f.le z/\(∃ (c2:OA),z.cell? a=some (.pointer c2)/\wpH P (aD #[220,220] 220 #[Sl L M N,Sl a1 a2 a3]) (fun o3 o4=>∃ g4 g5 g6,o3=Sl g4 g5 g6/\∃ g7,c2=some g7/\wpH P (aE 220 (.pointer (some (g7.add 1))) (.slice g4 g5 g6)) (fun _ d6=>s [I (B7 (c+1)),.bool m,.slice n o p] d6/\q [I (B7 (c+1)),.bool m,.slice n o p] d6<q [I c,.bool g,.slice i j k] l) o4) z)/\(wpH P (aD #[220,220] 220 #[Sl L M N,Sl a1 a2 a3]) (fun o5 d7=>∃ g8 g9 h0,o5=Sl g8 g9 h0/\∃ (c3:OA),d7.cell? a=some (.pointer c3)/\∃ h1,c3=some h1/\wpH P (aE 220 (.pointer (some (h1.add 1))) (.slice g8 g9 h0)) (fun _ d8=>s [I (B7 (c+1)),.bool m,.slice n o p] d8/\q [I (B7 (c+1)),.bool m,.slice n o p] d8<q [I c,.bool g,.slice i j k] l) d7) z)) f))))
 (∃ (W:LP),(aC P F0 #[Zv g i j k] l (fun o6 d9=>∃ (c4:Bool),o6= .bool c4/\Br c4 (aC P Rs #[I 1] d9 (fun o7 o8=>∃ h2 h3 h4 h5,o7=Zv h2 h3 h4 h5/\W [.bool h2,.slice h3 h4 h5] o8))
 (W [.bool g,.slice i j k] d9)))/\
 ∀ O Q R S T,W [.bool O,.slice Q R S] T->∃ (c5:OA),T.cell? a=some (.pointer c5)/\∃ h6,c5=some h6/\∃ h7 y h8,Hd T (h6.add 1) h7 y h8<|(0<=(e:Int)/\(e:Int)<=(y:Int))/\∃ (X:LP) (c6:LN),X [I 0] T/\
 ∀ d b,X [I d] b->Bd (d<((y-(((e:Int)).toNat):Nat):Int)) (∃ h9,H9 h7 h8 (((e:Int)).toNat) 2=some h9/\0<=d/\d<((y-(((e:Int)).toNat):Nat):Int)/\∃ i0 i1 i2 i3,Lz b (h9.add (d.toNat*2)) i0 i1 i2 i3 <| ∃ (c7:OA),b.cell? a=some (.pointer c7)/\∃ i4,c7=some i4/\∃ i5 i6 q8,Hd b (i4.add 1) i5 i6 q8<|aC P Ew #[Zv i0 i1 i2 i3,Zv O Q R S] b (fun o9 e0=>∃ i7 i8 i9 j0,o9=Zv i7 i8 i9 j0/\b.le e0/\∃ j1,Ax i5 j1 (B7 ((e:Int)+d)) i6<|wpH P (aE 138 (.pointer (some (j1.add ((B7 ((e:Int)+d)).toNat*2)))) (Zv i7 i8 i9 j0)) (fun _ e1=>X [I (B7 (d+1))] e1/\c6 [I (B7 (d+1))] e1<c6 [I d] b) e0))
 (∃ (c8:OA),b.cell? a=some (.pointer c8)/\∃ j2,c8=some j2/\∃ t u v,Hd b (j2.add 2) t u v<|(∃ (c9:OA),b.cell? a=some (.pointer c9)/\aC P S0 #[Zv B C D E,Zv O Q R S] b (fun p0 a0=>∃ j3 j4 j5 j6 j7 j8 j9 k0,p0=Qv j3 j4 j5 j6 j7 j8 j9 k0/\b.le a0/\wpH P (aF 128 1 #[(0,Qv j3 j4 j5 j6 j7 j8 j9 k0)]) (fun p1 e2=>∃ k1 k2 k3,p1=Sl k1 k2 k3/\a0.le e2/\wpH P (aD #[128,128] 128 #[Sl t u v,Sl k1 k2 k3]) (fun p2 p3=>∃ k4 k5 k6,p2=Sl k4 k5 k6/\∃ k7,c9=some k7/\wpH P (aE 128 (.pointer (some (k7.add 2))) (.slice k4 k5 k6)) (fun _ p4=>w p4) p3) e2) a0))/\(aC P S0 #[Zv B C D E,Zv O Q R S] b (fun p5 r=>∃ a4 a5 a6 a7 a8 a9 b0 b1,p5=Qv a4 a5 a6 a7 a8 a9 b0 b1/\b.le r/\(∃ (d0:OA),r.cell? a=some (.pointer d0)/\wpH P (aF 128 1 #[(0,Qv a4 a5 a6 a7 a8 a9 b0 b1)]) (fun p6 e3=>∃ k8 k9 l0,p6=Sl k8 k9 l0/\r.le e3/\wpH P (aD #[128,128] 128 #[Sl t u v,Sl k8 k9 l0]) (fun p7 p8=>∃ l1 l2 l3,p7=Sl l1 l2 l3/\∃ l4,d0=some l4/\wpH P (aE 128 (.pointer (some (l4.add 2))) (.slice l1 l2 l3)) (fun _ p9=>w p9) p8) e3) r)/\(wpH P (aF 128 1 #[(0,Qv a4 a5 a6 a7 a8 a9 b0 b1)]) (fun q0 A=>∃ b2 b3 b4,q0=Sl b2 b3 b4/\r.le A/\(∃ (d1:OA),A.cell? a=some (.pointer d1)/\wpH P (aD #[128,128] 128 #[Sl t u v,Sl b2 b3 b4]) (fun q1 q2=>∃ l5 l6 l7,q1=Sl l5 l6 l7/\∃ l8,d1=some l8/\wpH P (aE 128 (.pointer (some (l8.add 2))) (.slice l5 l6 l7)) (fun _ q3=>w q3) q2) A)/\(wpH P (aD #[128,128] 128 #[Sl t u v,Sl b2 b3 b4]) (fun q4 e4=>∃ l9 m0 m1,q4=Sl l9 m0 m1/\∃ (d2:OA),e4.cell? a=some (.pointer d2)/\∃ m2,d2=some m2/\wpH P (aE 128 (.pointer (some (m2.add 2))) (.slice l9 m0 m1)) (fun _ q5=>w q5) e4) A)) r)))))))
 (fun e5=>∃ (d3:OA),e5.cell? a=some (.pointer d3)/\K (.pointer d3) e5))) n1) m9) h
def A4w a b c d(hvc:A4x prog a b c d h K):aC prog Ae #[Sl a b c,I d] h K:=
 fnk func163 ⟨[(8,⟨[31],[(9,2)],[I 0,.bool false,N0],⟨([11,12]++Lrg 31 21),[9,11,12]⟩⟩),(17,⟨[62],[],[I 0],⟨([13,14]++Lrg 62 17),[14]⟩⟩)],[(16,⟨[],[(9,2)],[.bool false,N0],⟨[52,53,54],[9]⟩⟩)],[(12,([1,2,3,4,5,0,6,7,8,9,10],[])),(21,([1,2,3,4,5,6,0,7,8,9,10,11,12],[]))],[(4,[N0])],[(12,[(0,[6,7])]),(21,[(0,[7,8,9])])]⟩ [7,9,11,12,14] [1000000000] hvc
def C7l(P:aG)(e:OA)(a:Int)(h:aI)(K:VP):Prop:=
 ∃ f,e=some f/\∃ g k d,Hd h (f.add 1) g k d <| ∃ i,e=some i/\∃ b,h.cell? (i.add 0)=some (I b)/\∃ j,e=some j/\∃ c,h.cell? (j.add 0)=some (I c)/\(0<=B7 ((B7 (a+1))*c)/\B7 ((B7 (a+1))*c)<=(d:Int))/\(0<=B7 (a*b)/\B7 (a*b)<=(((B7 ((B7 (a+1))*c)).toNat:Nat):Int))/\K (.slice (H9 g d ((B7 (a*b)).toNat) 2) (((B7 ((B7 (a+1))*c)).toNat)-((B7 (a*b)).toNat)) (d-((B7 (a*b)).toNat))) h
def C2s a b(hvc:C7l prog a b h K):aC prog Y9 #[.pointer a,I b] h K:=
 fnk func165 an0 [] [] hvc
def C4z(P:aG)(c:OA)(d:Int)(e:Int)(h:aI)(K:VP):Prop:=
 aC P Y9 #[.pointer c,I d] h (fun b0 b1=>∃ i f b7,b0=Sl i f b7/\aC P Y9 #[.pointer c,I e] b1 (fun b2 b3=>∃ j k b8,b2=Sl j k b8/\∃ (g:LP) (l:LN),g [I 0] b3/\
 ∀ a b,g [I a] b->Bd (a<(f:Int)) (∃ n,Ax j n a k <| ∃ o p q r,Lz b (n.add (a.toNat*2)) o p q r <| ∃ s,Ax i s a f <| ∃ t u v w,Lz b (s.add (a.toNat*2)) t u v w <| ∃ x,Ax i x a f<|wpH P (aE 138 (.pointer (some (x.add (a.toNat*2)))) (Zv o p q r)) (fun _ b4=>∃ y,Ax j y a k<|wpH P (aE 138 (.pointer (some (y.add (a.toNat*2)))) (Zv t u v w)) (fun _ m=>g [I (B7 (a+1))] m/\l [I (B7 (a+1))] m<l [I a] b) b4) b)
 (∃ z,c=some z/\∃ A B b9,Hd b (z.add 2) A B b9 <| ∃ C,c=some C/\∃ D E c0,Hd b (C.add 2) D E c0 <| ∃ F,c=some F/\∃ G H c1,Hd b (F.add 2) G H c1 <| ∃ J,Ax G J e H <| ∃ L M N O Q R S T,Lq b (J.add (e.toNat*4)) L M N O Q R S T <| ∃ V,c=some V/\∃ W X c2,Hd b (V.add 2) W X c2 <| ∃ Z,Ax W Z d X <| ∃ a0 a1 a2 a3 a4 a5 a6 a7,Lq b (Z.add (d.toNat*4)) a0 a1 a2 a3 a4 a5 a6 a7 <| ∃ a8,Ax A a8 d B<|wpH P (aE 145 (.pointer (some (a8.add (d.toNat*4)))) (Qv L M N O Q R S T)) (fun _ b5=>∃ a9,Ax D a9 e E<|wpH P (aE 145 (.pointer (some (a9.add (e.toNat*4)))) (Qv a0 a1 a2 a3 a4 a5 a6 a7)) (fun _ b6=>K (.tuple #[]) b6) b5) b)))
def B8y a b c(hvc:C4z prog a b c h K):aC prog A1j #[.pointer a,I b,I c] h K:=
 fnk func237 { loops:=[(2,⟨[17],[],[I 0],⟨([8]++Lrg 17 18),[]⟩⟩)] } [] [] hvc
def C50(P:aG)(e:OA)(t:Int)(f:Int)(h:aI)(K:VP):Prop:=
 ∃ (c:LP) (g:LN),c [I t] h/\
 ∀ a b,c [I a] b->∃ l,e=some l/\∃ w i x,Hd b (l.add 2) w i x<|Bd (a<(i:Int)) (aC P Y9 #[.pointer e,I a] b (fun u k=>∃ m n y,u=Sl m n y/\∃ o,Ax m o f n <| ∃ p q r s,Lz k (o.add (f.toNat*2)) p q r s<|aC P F0 #[Zv p q r s] k (fun v d=>∃ (j:Bool),v= .bool j/\Br (!j) (K (.tuple #[I a,.bool true]) d)
 (c [I (B7 (a+1))] d/\g [I (B7 (a+1))] d<g [I a] b))))
 (K (.tuple #[I 0,.bool false]) b)
def B8z a b c(hvc:C50 prog a b c h K):aC prog A6n #[.pointer a,I b,I c] h K:=
 fnk func246 { loops:=[(2,⟨[8],[],[I 0],⟨([6,7,8]++Lrg 10 18),[]⟩⟩)] } [] [] hvc
def C0r(P:aG)(x:OA)(b4:Int)(b5:Int)(f:Int)(b6:Bool)(b7:OA)(b8 b9:Nat)(h:aI)(K:VP):Prop:=
 aC P Y9 #[.pointer x,I b4] h (fun c0 c1=>∃ j e d1,c0=Sl j e d1/\aC P Y9 #[.pointer x,I b5] c1 (fun c2 B=>∃ k l d2,c2=Sl k l d2/\∃ J,Ax j J f e <| ∃ p q r s,Lz B (J.add (f.toNat*2)) p q r s <| ∃ (d:LP) (c:LN),d [I 0] B/\
 ∀ a b,d [I a] b->Bd (a<(e:Int)) (∃ L,Ax j L a e <| ∃ t u v w,Lz b (L.add (a.toNat*2)) t u v w <| ∃ (m:LP),(aC P F0 #[Zv t u v w] b (fun c3 C=>∃ (y:Bool),c3= .bool y/\Br y (aC P F0 #[Zv p q r s] C (fun c4 i=>∃ (z:Bool),c4= .bool z/\Br z (d [I (B7 (a+1))] i/\c [I (B7 (a+1))] i<c [I a] b)
 (∃ M,Ax k M a l <| ∃ N O Q R,Lz i (M.add (a.toNat*2)) N O Q R<|aC P F0 #[Zv N O Q R] i (fun c5 n=>∃ (A:Bool),c5= .bool A/\Br A (d [I (B7 (a+1))] n/\c [I (B7 (a+1))] n<c [I a] b)
 (m [] n)))))
 (m [] C)))/\
 ∀ S,m [] S->wpH P (aK 265 true (.tuple #[])) (fun c6 D=>∃ (g:Addr),c6= .pointer (some g)/\∃ T,Ax k T f l <| ∃ V W X Z,Lz D (T.add (f.toNat*2)) V W X Z<|aC P Y5 #[.pointer (some g),Zv V W X Z,Zv t u v w] D (fun c7 E=>c7= .tuple #[]/\∃ a0,Ax k a0 a l <| ∃ a1 a2 a3 a4,Lz E (a0.add (a.toNat*2)) a1 a2 a3 a4<|aC P Gi #[.pointer (some g),Zv p q r s,Zv a1 a2 a3 a4] E (fun c8 F=>c8= .tuple #[]/\aC P Tg #[.pointer (some g)] F (fun c9 o=>∃ a5 a6 a7 a8,c9=Zv a5 a6 a7 a8/\F.le o/\aC P Ew #[Zv a5 a6 a7 a8,Zv b6 b7 b8 b9] o (fun d0 G=>∃ a9 b0 b1 b2,d0=Zv a9 b0 b1 b2/\o.le G/\∃ b3,Ax j b3 a e<|wpH P (aE 138 (.pointer (some (b3.add (a.toNat*2)))) (Zv a9 b0 b1 b2)) (fun _ H=>d [I (B7 (a+1))] H/\c [I (B7 (a+1))] H<c [I a] b) G))))) S)
 (K (.tuple #[]) b)))
def B6b a b c d e f g i(hvc:C0r prog a b c d e f g i h K):aC prog Tm #[.pointer a,I b,I c,I d,Zv e f g i] h K:=
 fnk func172 ⟨[(4,⟨[28],[],[I 0],⟨([13,14,15]++Lrg 28 37),[14]⟩⟩)],[(7,⟨[],[],[],⟨(Lrg 33 13),[]⟩⟩)],[(10,([0,1,3,2,4,5,6],[]))],[],[]⟩ [9,12,14] [244,245] hvc
def B66(P:aG)(m:OA)(Z:Int)(h:aI)(K:VP):Prop:=
 aC P Rs #[I 1] h (fun a0 a1=>∃ L M N O,a0=Zv L M N O/\∃ (o:LP) (p:LN),o [N0,I 1,I 0,.bool L,.slice M N O] a1/\
 ∀ e a f d b g i j k n,o [.slice e a f,I d,I b,.bool g,.slice i j k] n->Bd (b<Z) (aC P A6n #[.pointer m,I (a:Int),I b] n (fun a2 s=>∃ (t:Int) (E:Bool),a2= .tuple #[I t,.bool E]/\Br (!E) (o [.slice e a f,I d,I (B7 (b+1)),.bool g,.slice i j k] s/\p [.slice e a f,I d,I (B7 (b+1)),.bool g,.slice i j k] s<p [.slice e a f,I d,I b,.bool g,.slice i j k] n)
 (∃ (u:LP),(Br (t != (a:Int)) (aC P A1j #[.pointer m,I (a:Int),I t] s (fun a3 a4=>a3= .tuple #[]/\u [I (B7 (0-d))] a4))
 (u [I d] s))/\
 ∀ v w,u [I v] w->∃ Q,m=some Q/\∃ b0 F b1,Hd w (Q.add 2) b0 F b1 <| ∃ (q:LP) (r:LN),q [I 0] w/\
 ∀ c l,q [I c] l->Bd (c<(F:Int)) (Br (c != (a:Int)) (aC P Tm #[.pointer m,I c,I (a:Int),I b,Zv g i j k] l (fun a5 G=>a5= .tuple #[]/\q [I (B7 (c+1))] G/\r [I (B7 (c+1))] G<r [I c] l))
 (q [I (B7 (c+1))] l/\r [I (B7 (c+1))] l<r [I c] l))
 (aC P Y9 #[.pointer m,I (a:Int)] l (fun a6 H=>∃ R S b2,a6=Sl R S b2/\∃ T,Ax R T b S <| ∃ x y z A,Lz H (T.add (b.toNat*2)) x y z A<|wpH P (aF 70 1 #[(0,I b)]) (fun a7 a8=>∃ V W X,a7=Sl V W X/\wpH P (aD #[70,70] 70 #[Sl e a f,Sl V W X]) (fun a9 J=>∃ B C D,a9=Sl B C D/\o [.slice B C D,I v,I (B7 (b+1)),.bool x,.slice y z A] J/\p [.slice B C D,I v,I (B7 (b+1)),.bool x,.slice y z A] J<p [.slice e a f,I d,I b,.bool g,.slice i j k] n) a8) H)))))
 (K (.tuple #[Sl e a f,Zv g i j k,I d]) n))
def B18 a b(hvc:B66 prog a b h K):aC prog Is #[.pointer a,I b] h K:=
 fnk func174 ⟨[(4,⟨[7,9,17],[(8,2)],[N0,I 0,I 0,.bool false,N0],⟨([7,9,10,11,12,13,14]++Lrg 17 52),[8]⟩⟩),(13,⟨[45],[],[I 0],⟨([14]++Lrg 45 13),[]⟩⟩)],[(12,⟨[9],[],[I 0],⟨([9]++Lrg 31 9),[]⟩⟩)],[],[],[]⟩ [5,8] [172,237] hvc
def C0c(P:aG)(e:OA)(f g:Nat)(i:Int)(h:aI)(K:VP):Prop:=
 wpH P (Instr.box 128 (.slice e f g)) (fun j k=>∃ (b:Addr),j= .pointer (some b)/\wpH P (Instr.box 3 (I i)) (fun l d=>∃ (a:Addr),l= .pointer (some a)/\∃ (c:Int),d.cell? a=some (I c)/\Bd (c<(1:Int)) (False)
 (K (.func (.func 276) #[] #[.pointer (some b),.pointer (some a)]) d)) k) h
def B5p a b c d(hvc:C0c prog a b c d h K):aC prog Tj #[Sl a b c,I d] h K:=
 fnk func234 an0 [] [] hvc
def B5q(P:aG)(p:Nat)(f:Addr)(j:Addr)(h:aI)(K:VP):Prop:=
 ∃ (g:LP) (k:LN),g [I 0] h/\
 ∀ a d,g [I a] d->∃ (q:OA) (l r:Nat),d.cell? f=some (.slice q l r)/\Bd (a<(l:Int)) (∃ (c:Int),d.cell? j=some (I c)/\∃ (s:OA) (b t:Nat),d.cell? f=some (.slice s b t)/\(0<=a/\a<=(b:Int))/\∃ (m:OA) (u n:Nat),d.cell? f=some (.slice m u n)/\(0<=B7 (a+(if ((b-(a.toNat):Nat):Int)<c then ((b-(a.toNat):Nat):Int) else c))/\B7 (a+(if ((b-(a.toNat):Nat):Int)<c then ((b-(a.toNat):Nat):Int) else c))<=(n:Int))/\(0<=B7 (a+(if ((b-(a.toNat):Nat):Int)<c then ((b-(a.toNat):Nat):Int) else c))/\B7 (a+(if ((b-(a.toNat):Nat):Int)<c then ((b-(a.toNat):Nat):Int) else c))<=(((B7 (a+(if ((b-(a.toNat):Nat):Int)<c then ((b-(a.toNat):Nat):Int) else c))).toNat:Nat):Int))/\(0<=a/\a<=(((B7 (a+(if ((b-(a.toNat):Nat):Int)<c then ((b-(a.toNat):Nat):Int) else c))).toNat:Nat):Int))/\YCall P p #[.slice (H9 m ((B7 (a+(if ((b-(a.toNat):Nat):Int)<c then ((b-(a.toNat):Nat):Int) else c))).toNat) (a.toNat) 4) ((B7 (a+(if ((b-(a.toNat):Nat):Int)<c then ((b-(a.toNat):Nat):Int) else c))).toNat-a.toNat) ((B7 (a+(if ((b-(a.toNat):Nat):Int)<c then ((b-(a.toNat):Nat):Int) else c))).toNat-a.toNat)] d (fun v e=>∃ (o:Bool),v= .bool o/\Br (!o) (K (.tuple #[]) e)
 (∃ (i:Int),e.cell? j=some (I i)/\g [I (B7 (a+i))] e/\k [I (B7 (a+i))] e<k [I a] d)))
 (K (.tuple #[]) d)
def B12(a:Nat)(b:Addr)(c:Addr)(hvc:B5q prog a b c h K):aC prog Il #[.func (.yield a) #[] #[],.pointer (some b),.pointer (some c)] h K:=
 fnk func276 { loops:=[(1,⟨[4],[],[I 0],⟨(Lrg 4 27),[]⟩⟩)] } [] [] hvc
def A28:∀ (args:Array Value) (W:World),(callFunc Il args).run prog W= .ok (.enter Il args) W:=call276
def C4s(P:aG)(c:Int)(b:Int)(r:OA)(j s:Nat)(h:aI)(K:VP):Prop:=
 Bd (c<(1:Int)) (K (.tuple #[Sl none 0 0,.bool false]) h)
 (Bd (c>(64:Int)) (K (.tuple #[Sl none 0 0,.bool false]) h)
 (Bd (b<(1:Int)) (K (.tuple #[Sl none 0 0,.bool false]) h)
 (Bd (b>(64:Int)) (K (.tuple #[Sl none 0 0,.bool false]) h)
 (Br ((j:Int) != (B7 (c*b))) (K (.tuple #[Sl none 0 0,.bool false]) h)
 (aC P A6k #[Sl r j s] h (fun u n=>∃ (k:OA) (t d:Nat) (l:Bool),u= .tuple #[Sl k t d,.bool l]/\Br (!l) (K (.tuple #[Sl none 0 0,.bool false]) n)
 (wpH P (aH 56 (I c) (I c)) (fun v w=>∃ g i p,v=Sl g i p/\∃ (f:LP) (m:LN),f [I 0] w/\
 ∀ a e,f [I a] e->Bd (a<c) ((0<=B7 ((B7 (a+1))*b)/\B7 ((B7 (a+1))*b)<=(d:Int))/\(0<=B7 (a*b)/\B7 (a*b)<=(((B7 ((B7 (a+1))*b)).toNat:Nat):Int))/\∃ q,Ax g q a i<|wpH P (aE 75 (.pointer (some (q.add (a.toNat*1)))) (.slice (H9 k d ((B7 (a*b)).toNat) 4) (((B7 ((B7 (a+1))*b)).toNat)-((B7 (a*b)).toNat)) (d-((B7 (a*b)).toNat)))) (fun _ o=>f [I (B7 (a+1))] o/\m [I (B7 (a+1))] o<m [I a] e) e)
 (K (.tuple #[Sl g i p,.bool true]) e)) n)))))))
def B8t a b c d e(hvc:C4s prog a b c d e h K):aC prog A6m #[Mv a b c d e] h K:=
 fnk func61 { loops:=[(8,⟨[7],[],[I 0],⟨([7]++Lrg 48 20),[]⟩⟩)] } [1] [] hvc
def C4t(P:aG)(n:OA)(c E:Nat)(h:aI)(K:VP):Prop:=
 Br ((c:Int)==(0:Int)) (K (Mv (0:Int) (0:Int) none 0 0) h)
 (∃ s,Ax n s (0:Int) c <| ∃ C p D,Hd h (s.add (((0:Int)).toNat*1)) C p D <| ∃ (j:LP) (o:LN),j [I 0,I (c:Int),I (p:Int),N0] h/\
 ∀ a d e f g i b,j [I a,I d,I e,.slice f g i] b->Bd (a<(c:Int)) (∃ t,Ax n t a c <| ∃ u v w,Hd b (t.add (a.toNat*1)) u v w<|aC P Ti #[Sl u v w] b (fun A q=>∃ x y z,A=Sl x y z/\b.le q/\wpH P (aD #[38,38] 38 #[Sl f g i,Sl x y z]) (fun B r=>∃ k l m,B=Sl k l m/\j [I (B7 (a+1)),I d,I e,.slice k l m] r/\o [I (B7 (a+1)),I d,I e,.slice k l m] r<o [I a,I d,I e,.slice f g i] b) q))
 (K (Mv d e f g i) b))
def B8u a b c(hvc:C4t prog a b c h K):aC prog Lw #[Sl a b c] h K:=
 fnk func84 { loops:=[(5,⟨[4],[(3,3)],[I 0,I 0,I 0,N0],⟨([4]++Lrg 16 15),[3]⟩⟩)] } [2,3] [1000000000] hvc
def C0k(P:aG)(c:Int)(g:Int)(h:aI)(K:VP):Prop:=
 wpH P (aH 56 (I c) (I c)) (fun p q=>∃ e f k,p=Sl e f k/\∃ (d:LP) (i:LN),d [I 0] q/\
 ∀ a b,d [I a] b->Bd (a<c) (wpH P (aH 75 (I g) (I g)) (fun r s=>∃ l m n,r=Sl l m n/\∃ o,Ax e o a f<|wpH P (aE 75 (.pointer (some (o.add (a.toNat*1)))) (.slice l m n)) (fun _ j=>d [I (B7 (a+1))] j/\i [I (B7 (a+1))] j<i [I a] b) s) b)
 (K (Sl e f k) b)) h
def B62 a b(hvc:C0k prog a b h K):aC prog On #[I a,I b] h K:=
 fnk func115 { loops:=[(3,⟨[6],[],[I 0],⟨([6]++Lrg 9 10),[]⟩⟩)] } [] [] hvc
def C2q(P:aG)(c:Int)(h:aI)(K:VP):Prop:=
 aC P On #[I c,I c] h (fun x y=>∃ e f k,x=Sl e f k/\∃ (d:LP) (g:LN),d [I 0] y/\
 ∀ a b,d [I a] b->Bd (a<c) (∃ l,Ax e l a f <| ∃ m n A,Hd b (l.add (a.toNat*1)) m n A<|aC P C58 #[I 1] b (fun z i=>∃ o p q r s t u v,z=Qv o p q r s t u v/\b.le i/\∃ w,Ax m w a n<|wpH P (aE 81 (.pointer (some (w.add (a.toNat*4)))) (Qv o p q r s t u v)) (fun _ j=>d [I (B7 (a+1))] j/\g [I (B7 (a+1))] j<g [I a] b) i))
 (K (Sl e f k) b))
def A95 a(hvc:C2q prog a h K):aC prog Vi #[I a] h K:=
 fnk func162 { loops:=[(3,⟨[4],[],[I 0],⟨([4]++Lrg 8 12),[]⟩⟩)] } [] [] hvc
def C4u(P:aG)(B:OA)(k J:Nat)(h:aI)(K:VP):Prop:=
 ∃ (f:LP) (l:LN),f [N0,I 0] h/\
 ∀ b c d a e,f [.slice b c d,I a] e->Bd (a<(k:Int)) (wpH P (aF 75 0 #[]) (fun C m=>∃ o p q,C=Sl o p q/\∃ r,Ax B r a k <| ∃ s t u,Hd m (r.add (a.toNat*1)) s t u<|wpH P (aD #[75,75] 75 #[Sl o p q,Sl s t u]) (fun D E=>∃ v w x,D=Sl v w x/\wpH P (aF 56 1 #[(0,Sl v w x)]) (fun F G=>∃ y z A,F=Sl y z A/\wpH P (aD #[56,56] 56 #[Sl b c d,Sl y z A]) (fun H n=>∃ g i j,H=Sl g i j/\f [.slice g i j,I (B7 (a+1))] n/\l [.slice g i j,I (B7 (a+1))] n<l [.slice b c d,I a] e) G) E) m) e)
 (K (Sl b c d) e)
def B8v a b c(hvc:C4u prog a b c h K):aC prog Vl #[Sl a b c] h K:=
 fnk func161 { loops:=[(3,⟨[3,4],[],[N0,I 0],⟨(Lrg 3 17),[]⟩⟩)] } [] [] hvc
def C4r(P:aG)(f:OA)(d V:Nat)(h:aI)(K:VP):Prop:=
 ∃ q,Ax f q (0:Int) d <| ∃ N l O,Hd h (q.add (((0:Int)).toNat*1)) N l O<|aC P On #[I (l:Int),I (d:Int)] h (fun L M=>∃ j k r,L=Sl j k r/\∃ (g:LP) (m:LN),g [I 0] M/\
 ∀ a e,g [I a] e->Bd (a<(d:Int)) (∃ (i:LP) (n:LN),i [I 0] e/\
 ∀ b c,i [I b] c->∃ s,Ax f s a d <| ∃ Q o R,Hd c (s.add (a.toNat*1)) Q o R<|Bd (b<(o:Int)) (∃ t,Ax j t b k <| ∃ u v S,Hd c (t.add (b.toNat*1)) u v S <| ∃ w,Ax f w a d <| ∃ x y T,Hd c (w.add (a.toNat*1)) x y T <| ∃ z,Ax x z b y <| ∃ A B C D E F G H,Lq c (z.add (b.toNat*4)) A B C D E F G H <| ∃ J,Ax u J a v<|wpH P (aE 81 (.pointer (some (J.add (a.toNat*4)))) (Qv A B C D E F G H)) (fun _ p=>i [I (B7 (b+1))] p/\n [I (B7 (b+1))] p<n [I b] c) c)
 (g [I (B7 (a+1))] c/\m [I (B7 (a+1))] c<m [I a] e))
 (K (Sl j k r) e))
def B8s a b c(hvc:C4r prog a b c h K):aC prog Vj #[Sl a b c] h K:=
 fnk func83 { loops:=[(3,⟨[4],[],[I 0],⟨([4,5]++Lrg 13 28),[]⟩⟩),(6,⟨[5],[],[I 0],⟨([5]++Lrg 19 22),[]⟩⟩)] } [] [] hvc
def C0j(P:aG)(s:OA)(g g4:Nat)(o:OA)(i g5:Nat)(h:aI)(K:VP):Prop:=
 ∃ z,Ax o z (0:Int) i <| ∃ f5 t f6,Hd h (z.add (((0:Int)).toNat*1)) f5 t f6<|aC P On #[I (g:Int),I (t:Int)] h (fun f0 f1=>∃ l m A,f0=Sl l m A/\∃ (p:LP) (u:LN),p [I 0] f1/\
 ∀ b n,p [I b] n->Bd (b<(g:Int)) (∃ (j:LP) (k:LN),j [I 0] n/\
 ∀ a f,j [I a] f->Bd (a<(i:Int)) (∃ (q:LP) (v:LN),q [I 0] f/\
 ∀ d e,q [I d] e->∃ B,Ax o B (0:Int) i <| ∃ f7 w f8,Hd e (B.add (((0:Int)).toNat*1)) f7 w f8<|Bd (d<(w:Int)) (∃ C,Ax s C b g <| ∃ D E f9,Hd e (C.add (b.toNat*1)) D E f9 <| ∃ F,Ax D F a E <| ∃ G H J L M N O Q,Lq e (F.add (a.toNat*4)) G H J L M N O Q<|aC P U4 #[Qv G H J L M N O Q] e (fun f2 c=>∃ R,f2=I R/\Br (R != (0:Int)) (∃ S,Ax l S b m <| ∃ T V g0,Hd c (S.add (b.toNat*1)) T V g0 <| ∃ W,Ax l W b m <| ∃ X Z g1,Hd c (W.add (b.toNat*1)) X Z g1 <| ∃ a0,Ax X a0 d Z <| ∃ a1 a2 a3 a4 a5 a6 a7 a8,Lq c (a0.add (d.toNat*4)) a1 a2 a3 a4 a5 a6 a7 a8 <| ∃ a9,Ax s a9 b g <| ∃ b0 b1 g2,Hd c (a9.add (b.toNat*1)) b0 b1 g2 <| ∃ b2,Ax b0 b2 a b1 <| ∃ b3 b4 b5 b6 b7 b8 b9 c0,Lq c (b2.add (a.toNat*4)) b3 b4 b5 b6 b7 b8 b9 c0 <| ∃ c1,Ax o c1 a i <| ∃ c2 c3 g3,Hd c (c1.add (a.toNat*1)) c2 c3 g3 <| ∃ c4,Ax c2 c4 d c3 <| ∃ c5 c6 c7 c8 c9 d0 d1 d2,Lq c (c4.add (d.toNat*4)) c5 c6 c7 c8 c9 d0 d1 d2<|aC P Ls #[Qv b3 b4 b5 b6 b7 b8 b9 c0,Qv c5 c6 c7 c8 c9 d0 d1 d2] c (fun f3 r=>∃ d3 d4 d5 d6 d7 d8 d9 e0,f3=Qv d3 d4 d5 d6 d7 d8 d9 e0/\c.le r/\aC P Qk #[Qv a1 a2 a3 a4 a5 a6 a7 a8,Qv d3 d4 d5 d6 d7 d8 d9 e0] r (fun f4 x=>∃ e1 e2 e3 e4 e5 e6 e7 e8,f4=Qv e1 e2 e3 e4 e5 e6 e7 e8/\r.le x/\∃ e9,Ax T e9 d V<|wpH P (aE 81 (.pointer (some (e9.add (d.toNat*4)))) (Qv e1 e2 e3 e4 e5 e6 e7 e8)) (fun _ y=>q [I (B7 (d+1))] y/\v [I (B7 (d+1))] y<v [I d] e) x)))
 (j [I (B7 (a+1))] c/\k [I (B7 (a+1))] c<k [I a] f)))
 (j [I (B7 (a+1))] e/\k [I (B7 (a+1))] e<k [I a] f))
 (p [I (B7 (b+1))] f/\u [I (B7 (b+1))] f<u [I b] n))
 (K (Sl l m A) n))
def B5z a b c d e f(hvc:C0j prog a b c d e f h K):aC prog Jz #[Sl a b c,Sl d e f] h K:=
 fnk func82 { loops:=[(3,⟨[6],[],[I 0],⟨([6,7,8]++Lrg 16 60),[]⟩⟩),(6,⟨[7],[],[I 0],⟨([7,8]++Lrg 22 54),[]⟩⟩),(9,⟨[8],[],[I 0],⟨([8]++Lrg 28 48),[]⟩⟩)] } [] [] hvc
def Md(P:aG)(d:OA)(e i:Nat)(b2:Int)(b3:LP)(j:LN)(c:Int)(b4:Bool)(b5:OA)(b6 b7:Nat)(b8:Bool)(b9:OA)(c0 c1:Nat)(c2:aI)(c3:aI):Prop:=
 ∃ (f:LP) (k:LN),f [I b2] c2/\
 ∀ b a,f [I b] a->∃ o,Ax d o c e <| ∃ c6 l c7,Hd a (o.add (c.toNat*1)) c6 l c7<|Bd (b<(l:Int)) (∃ p,Ax d p c e <| ∃ q r c8,Hd a (p.add (c.toNat*1)) q r c8 <| ∃ s,Ax d s c e <| ∃ t u c9,Hd a (s.add (c.toNat*1)) t u c9 <| ∃ v,Ax t v b u <| ∃ w x y z A B C D,Lq a (v.add (b.toNat*4)) w x y z A B C D <| ∃ E,Ax d E (i:Int) e <| ∃ F G d0,Hd a (E.add (((i:Int)).toNat*1)) F G d0 <| ∃ H,Ax F H b G <| ∃ J L M N O Q R S,Lq a (H.add (b.toNat*4)) J L M N O Q R S<|aC P Ls #[Qv b4 b5 b6 b7 b8 b9 c0 c1,Qv J L M N O Q R S] a (fun c4 g=>∃ T V W X Z a0 a1 a2,c4=Qv T V W X Z a0 a1 a2/\a.le g/\aC P Lr #[Qv w x y z A B C D,Qv T V W X Z a0 a1 a2] g (fun c5 m=>∃ a3 a4 a5 a6 a7 a8 a9 b0,c5=Qv a3 a4 a5 a6 a7 a8 a9 b0/\g.le m/\∃ b1,Ax q b1 b r<|wpH P (aE 81 (.pointer (some (b1.add (b.toNat*4)))) (Qv a3 a4 a5 a6 a7 a8 a9 b0)) (fun _ n=>f [I (B7 (b+1))] n/\k [I (B7 (b+1))] n<k [I b] a) m)))
 (b3 [I (B7 (c+1))] a/\j [I (B7 (c+1))] a<j [I c] c3)
def Gy(P:aG)(u:OA)(g:Nat)(S:LP)(v:LN)(w:OA)(f x:Nat)(c:Int)(T:Bool)(V:OA)(W X:Nat)(Z:Bool)(a0:OA)(a1 a2:Nat)(y:Bool)(z:OA)(A B:Nat)(C:Bool)(D:OA)(E F:Nat)(a3:aI)(a4:aI):Prop:=
 ∃ (d:LP) (e:LN),d [I 0] a4/\
 ∀ a b,d [I a] b->Bd (a<(g:Int)) (∃ H,Ax u H a g <| ∃ J L a9,Hd b (H.add (a.toNat*1)) J L a9 <| ∃ M,Ax J M c L <| ∃ j k l m n o p q,Lq b (M.add (c.toNat*4)) j k l m n o p q<|Br (a==(f:Int)) (d [I (B7 (a+1))] b/\e [I (B7 (a+1))] b<e [I a] b)
 (aC P U4 #[Qv j k l m n o p q] b (fun a5 i=>∃ N,a5=I N/\Br (N==(0:Int)) (d [I (B7 (a+1))] i/\e [I (B7 (a+1))] i<e [I a] b)
 (Md P u g f c d e a j k l m n o p q i b))))
 (wpH P (aF 70 1 #[(0,I c)]) (fun a6 a7=>∃ O Q R,a6=Sl O Q R/\wpH P (aD #[70,70] 70 #[Sl w f x,Sl O Q R]) (fun a8 G=>∃ r s t,a8=Sl r s t/\S [.slice r s t,I (B7 (c+1)),.bool y,.slice z A B,.bool C,.slice D E F] G/\v [.slice r s t,I (B7 (c+1)),.bool y,.slice z A B,.bool C,.slice D E F] G<v [.slice w f x,I c,.bool T,.slice V W X,.bool Z,.slice a0 a1 a2] a3) a7) b)
def Me(P:aG)(d:OA)(e:Nat)(M:LP)(N:LN)(O:OA)(c Q:Nat)(R:Int)(S:Bool)(T:OA)(V W:Nat)(X:Bool)(Z:OA)(a0 a1:Nat)(a2:Bool)(a3:OA)(a4 a5:Nat)(a6:Bool)(a7:OA)(a8 a9:Nat)(b0:Bool)(b1:OA)(b2 b3:Nat)(b4:Bool)(b5:OA)(b6 b7:Nat)(b8:aI)(b9:aI):Prop:=
 ∃ (f:LP) (g:LN),f [I 0] b8/\
 ∀ a b,f [I a] b->∃ l,Ax d l (c:Int) e <| ∃ c1 i c2,Hd b (l.add (((c:Int)).toNat*1)) c1 i c2<|Bd (a<(i:Int)) (∃ m,Ax d m (c:Int) e <| ∃ n o c3,Hd b (m.add (((c:Int)).toNat*1)) n o c3 <| ∃ p,Ax d p (c:Int) e <| ∃ q r c4,Hd b (p.add (((c:Int)).toNat*1)) q r c4 <| ∃ s,Ax q s a r <| ∃ t u v w x y z A,Lq b (s.add (a.toNat*4)) t u v w x y z A<|aC P Vg #[Qv t u v w x y z A,Qv a2 a3 a4 a5 a6 a7 a8 a9] b (fun c0 j=>∃ B C D E F G H J,c0=Qv B C D E F G H J/\b.le j/\∃ L,Ax n L a o<|wpH P (aE 81 (.pointer (some (L.add (a.toNat*4)))) (Qv B C D E F G H J)) (fun _ k=>f [I (B7 (a+1))] k/\g [I (B7 (a+1))] k<g [I a] b) j))
 (Gy P d e M N O c Q R S T V W X Z a0 a1 b0 b1 b2 b3 b4 b5 b6 b7 b9 b)
def Mh(P:aG)(m:OA)(n:Nat)(A:LP)(B:LN)(C:OA)(a D:Nat)(b:Int)(E:Bool)(F:OA)(G H:Nat)(J:Bool)(L:OA)(M N:Nat)(O:Bool)(Q:OA)(R S:Nat)(T:Bool)(V:OA)(W X:Nat)(Z:aI)(c:aI):Prop:=
 ∃ o,Ax m o (a:Int) n <| ∃ p q a2,Hd c (o.add (((a:Int)).toNat*1)) p q a2 <| ∃ r,Ax p r b q <| ∃ d e f g i j k l,Lq c (r.add (b.toNat*4)) d e f g i j k l<|aC P Ls #[Qv O Q R S T V W X,Qv d e f g i j k l] c (fun a0 a1=>∃ s t u v w x y z,a0=Qv s t u v w x y z/\Me P m n A B C a D b E F G H J L M N d e f g i j k l s t u v w x y z a1 Z)
def Mi(P:aG)(e:OA)(b:Nat)(t:LP)(r:LN)(f:OA)(a g:Nat)(i:Int)(j:Bool)(k:OA)(l m:Nat)(n:Bool)(o:OA)(p q:Nat)(c:Int)(u:aI)(d:aI):Prop:=
 Br (c==(b:Int)) (t [.slice f a g,I (B7 (i+1)),.bool false,N0,.bool false,N0] d/\r [.slice f a g,I (B7 (i+1)),.bool false,N0,.bool false,N0] d<r [.slice f a g,I i,.bool j,.slice k l m,.bool n,.slice o p q] u)
 (∃ (s:LP),(Br (c != (a:Int)) (∃ v,Ax e v (a:Int) b <| ∃ w x y,Hd d (v.add (((a:Int)).toNat*1)) w x y <| ∃ z,Ax e z c b <| ∃ A B C,Hd d (z.add (c.toNat*1)) A B C <| ∃ D,Ax e D c b<|wpH P (aE 75 (.pointer (some (D.add (c.toNat*1)))) (.slice w x y)) (fun _ a1=>∃ E,Ax e E (a:Int) b<|wpH P (aE 75 (.pointer (some (E.add (((a:Int)).toNat*1)))) (.slice A B C)) (fun _ a2=>aC P A1a #[Qv j k l m n o p q] a2 (fun a3 a4=>∃ F G H J L M N O,a3=Qv F G H J L M N O/\s [.bool F,.slice G H J,.bool L,.slice M N O] a4)) a1) d)
 (s [.bool j,.slice k l m,.bool n,.slice o p q] d))/\
 ∀ Q R S T V W X Z a0,s [.bool Q,.slice R S T,.bool V,.slice W X Z] a0->Mh P e b t r f a g i j k l m n o p q Q R S T V W X Z u a0)
def A96(P:aG)(a1:OA)(a2 a3:Nat)(t:Int)(h:aI)(K:VP):Prop:=
 aC P Vl #[Sl a1 a2 a3] h (fun a5 a6=>∃ d b j,a5=Sl d b j/\aC P C58 #[I 1] a6 (fun a7 a8=>∃ z A B C D E F G,a7=Qv z A B C D E F G/\∃ (u:LP) (a4:LN),u [N0,I 0,.bool z,.slice A B C,.bool D,.slice E F G] a8/\
 ∀ f a g k l m n o p q r s e,u [.slice f a g,I k,.bool l,.slice m n o,.bool p,.slice q r s] e->Bd (k<t) (Bd ((a:Int)<(b:Int)) (∃ (v:LP),(∃ (w:LP) (y:LN),w [I (a:Int)] e/\
 ∀ c i,w [I c] i->Bd (c<(b:Int)) (∃ H,Ax d H c b <| ∃ J L b0,Hd i (H.add (c.toNat*1)) J L b0 <| ∃ M,Ax J M k L <| ∃ N O Q R S T V W,Lq i (M.add (k.toNat*4)) N O Q R S T V W<|aC P U4 #[Qv N O Q R S T V W] i (fun a9 x=>∃ X,a9=I X/\Br (X==(0:Int)) (w [I (B7 (c+1))] x/\y [I (B7 (c+1))] x<y [I c] i)
 (v [I c] x)))
 (v [I c] i))/\
 ∀ Z a0,v [I Z] a0->Mi P d b u a4 f a g k l m n o p q r s Z e a0)
 (Bd ((a:Int)<t) (K (.tuple #[Sl d b j,Sl f a g,Qv false none 0 0 false none 0 0]) e)
 (K (.tuple #[Sl d b j,Sl f a g,Qv l m n o p q r s]) e)))
 (Bd ((a:Int)<t) (K (.tuple #[Sl d b j,Sl f a g,Qv false none 0 0 false none 0 0]) e)
 (K (.tuple #[Sl d b j,Sl f a g,Qv l m n o p q r s]) e))))
def A7c a b c d(hvc:A96 prog a b c d h K):aC prog Ka #[Sl a b c,I d] h K:=
 fnk func132 ⟨[(5,⟨[8,10],[(9,4)],[N0,I 0,.bool false,N0,.bool false,N0],⟨([8]++Lrg 10 8++Lrg 21 148),[9,13,16]⟩⟩),(9,⟨[12],[],[I 0],⟨([12]++Lrg 36 17),[]⟩⟩),(19,⟨[14],[],[I 0],⟨([14]++Lrg 87 24),[]⟩⟩),(23,⟨[15],[],[I 0],⟨([15,16,17]++Lrg 111 54),[16]⟩⟩),(28,⟨[17],[],[I 0],⟨([17]++Lrg 133 32),[]⟩⟩)],[(11,⟨[12],[],[I 0],⟨([12]++Lrg 36 17),[]⟩⟩),(16,⟨[],[(9,4)],[.bool false,N0,.bool false,N0],⟨(Lrg 58 19),[9]⟩⟩)],[],[],[]⟩ [6,9,13,16] [] hvc
def B61(P:aG)(f4:OA)(b i9:Nat)(h:aI)(K:VP):Prop:=
 aC P Vi #[I (b:Int)] h (fun g6 g7=>∃ a7 a8 i8,g6=Sl a7 a8 i8/\∃ (j:LP) (i:LN),j [N0,I 0] g7/\
 ∀ d e f a c,j [.slice d e f,I a] c->Bd (a<(b:Int)) (∃ a9,Ax f4 a9 a b <| ∃ m n o,Hd c (a9.add (a.toNat*1)) m n o <| ∃ p,Ax a7 p a a8<|(∃ b0 b1 b2,Hd c (p.add (a.toNat*1)) b0 b1 b2<|wpH P (aF 75 0 #[]) (fun g8 S=>∃ b3 b4 b5,g8=Sl b3 b4 b5/\c.le S/\wpH P (aD #[75,75] 75 #[Sl b3 b4 b5,Sl m n o]) (fun g9 h0=>∃ b6 b7 b8,g9=Sl b6 b7 b8/\wpH P (aD #[75,75] 75 #[Sl b6 b7 b8,Sl b0 b1 b2]) (fun h1 T=>∃ b9 c0 c1,h1=Sl b9 c0 c1/\wpH P (aF 56 1 #[(0,Sl b9 c0 c1)]) (fun h2 V=>∃ c2 c3 c4,h2=Sl c2 c3 c4/\T.le V/\wpH P (aD #[56,56] 56 #[Sl d e f,Sl c2 c3 c4]) (fun h3 W=>∃ v w x,h3=Sl v w x/\j [.slice v w x,I (B7 (a+1))] W/\i [.slice v w x,I (B7 (a+1))] W<i [.slice d e f,I a] c) V) T) h0) S) c)/\(wpH P (aF 75 0 #[]) (fun h4 l=>∃ y z A,h4=Sl y z A/\c.le l/\(∃ c5 c6 c7,Hd l (p.add (a.toNat*1)) c5 c6 c7<|wpH P (aD #[75,75] 75 #[Sl y z A,Sl m n o]) (fun h5 h6=>∃ c8 c9 d0,h5=Sl c8 c9 d0/\wpH P (aD #[75,75] 75 #[Sl c8 c9 d0,Sl c5 c6 c7]) (fun h7 X=>∃ d1 d2 d3,h7=Sl d1 d2 d3/\wpH P (aF 56 1 #[(0,Sl d1 d2 d3)]) (fun h8 Z=>∃ d4 d5 d6,h8=Sl d4 d5 d6/\X.le Z/\wpH P (aD #[56,56] 56 #[Sl d e f,Sl d4 d5 d6]) (fun h9 a0=>∃ B C D,h9=Sl B C D/\j [.slice B C D,I (B7 (a+1))] a0/\i [.slice B C D,I (B7 (a+1))] a0<i [.slice d e f,I a] c) Z) X) h6) l)/\(wpH P (aD #[75,75] 75 #[Sl y z A,Sl m n o]) (fun i0 a1=>∃ d7 d8 d9,i0=Sl d7 d8 d9/\∃ e0 e1 e2,Hd a1 (p.add (a.toNat*1)) e0 e1 e2<|wpH P (aD #[75,75] 75 #[Sl d7 d8 d9,Sl e0 e1 e2]) (fun i1 a2=>∃ e3 e4 e5,i1=Sl e3 e4 e5/\wpH P (aF 56 1 #[(0,Sl e3 e4 e5)]) (fun i2 a3=>∃ e6 e7 e8,i2=Sl e6 e7 e8/\a2.le a3/\wpH P (aD #[56,56] 56 #[Sl d e f,Sl e6 e7 e8]) (fun i3 a4=>∃ E F G,i3=Sl E F G/\j [.slice E F G,I (B7 (a+1))] a4/\i [.slice E F G,I (B7 (a+1))] a4<i [.slice d e f,I a] c) a3) a2) a1) l)) c))
 (aC P Ka #[Sl d e f,I (b:Int)] c (fun i4 a5=>∃ (N:OA) (O f5:Nat) (f6:OA) (Q f7:Nat) (f8:Bool) (f9:OA) (g0 g1:Nat) (g2:Bool) (g3:OA) (g4 g5:Nat),i4= .tuple #[Sl N O f5,Sl f6 Q f7,Qv f8 f9 g0 g1 g2 g3 g4 g5]/\Bd ((Q:Int)<(b:Int)) (K (.tuple #[Sl none 0 0,.bool false]) a5)
 (∃ (t:LP) (R:LN),t [N0,I 0] a5/\
 ∀ q r s g k,t [.slice q r s,I g] k->Bd (g<(b:Int)) (∃ e9,Ax N e9 g O <| ∃ f0 u H,Hd k (e9.add (g.toNat*1)) f0 u H<|(0<=(b:Int)/\(b:Int)<=(u:Int))/\wpH P (aF 56 1 #[(0,.slice (H9 f0 H (((b:Int)).toNat) 4) (u-(((b:Int)).toNat)) (H-(((b:Int)).toNat)))]) (fun i5 i6=>∃ f1 f2 f3,i5=Sl f1 f2 f3/\wpH P (aD #[56,56] 56 #[Sl q r s,Sl f1 f2 f3]) (fun i7 a6=>∃ J L M,i7=Sl J L M/\t [.slice J L M,I (B7 (g+1))] a6/\R [.slice J L M,I (B7 (g+1))] a6<R [.slice q r s,I g] k) i6) k)
 (K (.tuple #[Sl q r s,.bool true]) k)))))
def B15 a b c(hvc:B61 prog a b c h K):aC prog Vk #[Sl a b c] h K:=
 fnk func99 ⟨[(5,⟨[6,7],[],[N0,I 0],⟨([6,7]++Lrg 17 19),[]⟩⟩),(13,⟨[11,12],[],[N0,I 0],⟨([11,12]++Lrg 47 14),[]⟩⟩)],[],[(7,([0,2,3,4,5,7,8,9,10,1,6,11,12,13,14],[]))],[],[(7,[(10,[1,6])])]⟩ [10] [1000000000] hvc
def C0e(P:aG)(i:Int)(j:OA)(d k:Nat)(h:aI)(K:VP):Prop:=
 ∃ (c:LP) (e:LN),c [I 0] h/\
 ∀ a b,c [I a] b->Bd (a<(d:Int)) (∃ g,Ax j g a d <| ∃ (f:ByteArray),b.cell? (g.add (a.toNat*1))=some (.string f)/\Bd (((ByteArray.size f:Nat):Int)>i) (K (.bool false) b)
 (c [I (B7 (a+1))] b/\e [I (B7 (a+1))] b<e [I a] b))
 (K (.bool true) b)
def B5s a b c d(hvc:C0e prog a b c d h K):aC prog Tk #[I a,Sl b c d] h K:=
 fnk func31 { loops:=[(2,⟨[5],[],[I 0],⟨(Lrg 4 15),[]⟩⟩)] } [] [] hvc
def A92(P:aG)(l:OA)(c n:Nat)(m:OA)(e o:Nat)(h:aI)(K:VP):Prop:=
 Br ((c:Int) != (e:Int)) (K (.bool false) h)
 (∃ (d:LP) (f:LN),d [I 0] h/\
 ∀ a b,d [I a] b->Bd (a<(c:Int)) (∃ j,Ax l j a c <| ∃ (g:ByteArray),b.cell? (j.add (a.toNat*1))=some (.string g)/\∃ k,Ax m k a e <| ∃ (i:ByteArray),b.cell? (k.add (a.toNat*1))=some (.string i)/\Br (!(g.toList==i.toList)) (K (.bool false) b)
 (d [I (B7 (a+1))] b/\f [I (B7 (a+1))] b<f [I a] b))
 (K (.bool true) b))
def A79 a b c d e f(hvc:A92 prog a b c d e f h K):aC prog Co #[Sl a b c,Sl d e f] h K:=
 fnk func80 { loops:=[(4,⟨[5],[],[I 0],⟨([4,5]++Lrg 11 15),[]⟩⟩)] } [] [] hvc
def A53(P:aG)(b:Int)(c:Int)(d:OA)(e f:Nat)(g:Int)(i:Int)(j:OA)(k l:Nat)(h:aI)(K:VP):Prop:=
 Br (b==g) (Br (c==i) (aC P Co #[Sl d e f,Sl j k l] h (fun m n=>∃ (a:Bool),m= .bool a/\K (.bool a) n))
 (K (.bool false) h))
 (K (.bool false) h)
def A52 a b c d e f g i j k(hvc:A53 prog a b c d e f g i j k h K):aC prog Gm #[Mv a b c d e,Mv f g i j k] h K:=
 fnk func29 an0 [2,3] [] hvc
def C7k(P:aG)(b:Int)(a:Int)(h:aI)(K:VP):Prop:=
 Bd (a=0) False
 (Bd ((Int.tmod b a)<(0:Int)) (K (I (B7 ((Int.tmod b a)+a))) h)
 (K (I (Int.tmod b a)) h))
def C2p a b(hvc:C7k prog a b h K):aC prog B3q #[I a,I b] h K:=
 fnk func40 an0 [] [] hvc
def A51(P:aG)(g:Int)(b:Int)(a2:OA)(a3 a4:Nat)(j:Int)(k:Int)(a5:OA)(a6 a7:Nat)(h:aI)(K:VP):Prop:=
 aC P Ij #[Mv g b a2 a3 a4] h (fun a9 b0=>∃ (f:OA) (d l:Nat) (m:Bool),a9= .tuple #[Sl f d l,.bool m]/\aC P Ij #[Mv j k a5 a6 a7] b0 (fun b1 e=>∃ (n:OA) (o a8:Nat) (p:Bool),b1= .tuple #[Sl n o a8,.bool p]/\Br (!m) (K (.tuple #[Mv (0:Int) (0:Int) none 0 0,I 1]) e)
 (Br (!p) (K (.tuple #[Mv (0:Int) (0:Int) none 0 0,I 1]) e)
 (Br (g != j) (K (.tuple #[Mv (0:Int) (0:Int) none 0 0,I 4]) e)
 (Br (b != k) (K (.tuple #[Mv (0:Int) (0:Int) none 0 0,I 4]) e)
 (∃ (i:LP) (q:LN),i [I 0] e/\
 ∀ a c,i [I a] c->Bd (a<(d:Int)) (∃ x,Ax f x a d <| ∃ y z A B C D E F,Lq c (x.add (a.toNat*4)) y z A B C D E F <| ∃ b,Ax n b a o <| ∃ G H J L M N O Q,Lq c (b.add (a.toNat*4)) G H J L M N O Q<|aC P A89 #[Qv y z A B C D E F,Qv G H J L M N O Q] c (fun b2 b3=>∃ R S T V W X Z a0,b2=Qv R S T V W X Z a0/\∃ a1,Ax f a1 a d<|wpH P (aE 145 (.pointer (some (a1.add (a.toNat*4)))) (Qv R S T V W X Z a0)) (fun _ w=>i [I (B7 (a+1))] w/\q [I (B7 (a+1))] w<q [I a] c) b3))
 (aC P Om #[I g,I b,Sl f d l] c (fun b4 b5=>∃ (r:Int) (s:Int) (t:OA) (u v:Nat),b4=Mv r s t u v/\K (.tuple #[Mv r s t u v,I 0]) b5))))))))
def A50 a b c d e f g i j k(hvc:A51 prog a b c d e f g i j k h K):aC prog Qn #[Mv a b c d e,Mv f g i j k,.func (.func 180) #[] #[]] h K:=
 fnk func179 { loops:=[(8,⟨[45],[],[I 0],⟨([12]++Lrg 45 17),[]⟩⟩)] } [3,4,6] [] hvc
