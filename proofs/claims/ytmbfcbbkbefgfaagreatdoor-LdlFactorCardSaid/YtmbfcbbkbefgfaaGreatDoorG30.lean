/- A part. -/
import Derived.Test.YtmbfcbbkbefgfaaGreatDoorG28
open Go.Proofs.Tryz
set_option linter.all false
open _root_.Go.Builtin renaming append_->aF
open _root_.Go.Instr renaming buildSlice->aD,storeAt->aE
open _root_.Go renaming Program->aG
open _root_.Go.Proofs.YtmbfcbbkbefgfaaGreatDoor renaming FCall->aC,Heap->aH
namespace Go.Proofs.YtmbfcbbkbefgfaaGreatDoor
open Go
set_option maxRecDepth 100000
variable {h:aH} {K:VP}
abbrev B9j:Nat:=33
abbrev Vm:Nat:=85
abbrev Ez:Nat:=22
abbrev C5d:Nat:=34
abbrev A1h:Nat:=26
abbrev Qp:Nat:=96
abbrev T3:Nat:=89
abbrev Ip:Nat:=86
abbrev Kc:Nat:=24
abbrev B08:Nat:=91
abbrev Cp:Nat:=93
abbrev Kb:Nat:=157
abbrev Qo:Nat:=90
abbrev Gn:Nat:=167
abbrev In:Nat:=32
abbrev Io:Nat:=88
abbrev Vh:Nat:=23
abbrev A1e:Nat:=94
abbrev A1g:Nat:=173
abbrev Jy:Nat:=25
abbrev C63:Nat:=106
abbrev C5c:Nat:=35
abbrev A1f:Nat:=27
abbrev Oe:Nat:=20
abbrev Im:Nat:=21
abbrev A1d:Nat:=19
abbrev A6l:Nat:=28
abbrev C3s:Nat:=5
abbrev Rx:Nat:=4
abbrev C5i:Nat:=44
abbrev Fq:Nat:=140
abbrev C34:Nat:=131
def C4w(P:aG)(f:Int)(d:Int)(g:OA)(i w:Nat)(h:aH)(K:VP):Prop:=
 aC P Ij #[Mv f d g i w] h (fun x l=>∃ (m:OA) (n o:Nat) (p:Bool),x= .tuple #[Sl m n o,.bool p]/\Br (!p) (K (.tuple #[Sl none 0 0,I 1]) l)
 (Br (f != d) (K (.tuple #[Sl none 0 0,I 4]) l)
 (∃ (j:LP) (q:LN),j [I 0] l/\
 ∀ a e,j [I a] e->Bd (a<f) (∃ (k:LP) (r:LN),k [I 0] e/\
 ∀ b c,k [I b] c->Bd (b<a) (∃ u,Ax g u (B7 ((B7 (a*d))+b)) i <| ∃ (s:ByteArray),c.cell? (u.add ((B7 ((B7 (a*d))+b)).toNat*1))=some (.string s)/\∃ v,Ax g v (B7 ((B7 (b*d))+a)) i <| ∃ (t:ByteArray),c.cell? (v.add ((B7 ((B7 (b*d))+a)).toNat*1))=some (.string t)/\Br (!(s.toList==t.toList)) (K (.tuple #[Sl none 0 0,I 4]) c)
 (k [I (B7 (b+1))] c/\r [I (B7 (b+1))] c<r [I b] c))
 (j [I (B7 (a+1))] c/\q [I (B7 (a+1))] c<q [I a] e))
 (K (.tuple #[Sl m n o,I 0]) e))))
def B8w a b c d e(hvc:C4w prog a b c d e h K):aC prog Vm #[Mv a b c d e] h K:=
 fnk func85 { loops:=[(7,⟨[22],[],[I 0],⟨([2,3,6,7]++Lrg 22 30),[]⟩⟩),(10,⟨[26],[],[I 0],⟨([2,3,7]++Lrg 26 25),[]⟩⟩)] } [1] [] hvc
def B64(P:aG)(c:Int)(f:Int)(B:OA)(C D:Nat)(h:aH)(K:VP):Prop:=
 aC P Vm #[Mv c f B C D] h (fun E l=>∃ (g:OA) (i j:Nat) (d:Int),E= .tuple #[Sl g i j,I d]/\Br (d != (0:Int)) (K (.tuple #[.agg #[I 0,I 0,Sl none 0 0,Sl none 0 0],.bool false,I d]) l)
 (aC P Ip #[Sl g i j,I c] l (fun F a=>∃ (e:OA) (k:Bool),F= .tuple #[.pointer e,.bool k]/\Br (!k) (K (.tuple #[.agg #[I 0,I 0,Sl none 0 0,Sl none 0 0],.bool false,I 0]) a)
 (∃ n,e=some n/\∃ o p q,Hd a (n.add 5) o p q<|aC P Ey #[Sl o p q] a (fun G b=>∃ r s t,G=Sl r s t/\a.le b/\∃ u,e=some u/\∃ v w x,Hd b (u.add 6) v w x<|aC P Ey #[Sl v w x] b (fun H m=>∃ y z A,H=Sl y z A/\b.le m/\K (.tuple #[.agg #[I c,I f,Sl r s t,Sl y z A],.bool true,I 0]) m))))))
def B16 a b c d e(hvc:B64 prog a b c d e h K):aC prog Ez #[Mv a b c d e] h K:=
 fnk func22 { orders:=[(7,((Lrg 0 8++[10,8,9,11]),[]))] } [1,2,9] [] hvc
def C0l(P:aG)(a:Int)(c:Int)(d:OA)(e f:Nat)(b:Int)(h:aH)(K:VP):Prop:=
 aC P Vm #[Mv a c d e f] h (fun b6 g=>∃ (b1:OA) (b2 b3:Nat) (i:Int),b6= .tuple #[Sl b1 b2 b3,I i]/\Br (i != (0:Int)) (K (.tuple #[Mv (0:Int) (0:Int) none 0 0,I i]) g)
 (Bd (b<(1:Int)) (K (.tuple #[Mv (0:Int) (0:Int) none 0 0,I 3]) g)
 (Bd (b>=a) (K (.tuple #[Mv (0:Int) (0:Int) none 0 0,I 3]) g)
 (aC P Qp #[Mv a c d e f,I 0,I b,I 0,I b] g (fun b7 b8=>∃ (q:Int) (r:Int) (s:OA) (t u:Nat),b7=Mv q r s t u/\aC P Qm #[Mv q r s t u] b8 (fun b9 k=>∃ (v:Int) (w:Int) (x:OA) (y z:Nat) (j:Int),b9= .tuple #[Mv v w x y z,I j]/\Br (j != (0:Int)) (K (.tuple #[Mv (0:Int) (0:Int) none 0 0,I j]) k)
 (aC P Qp #[Mv a c d e f,I b,I a,I 0,I b] k (fun c0 l=>∃ (A:Int) (B:Int) (C:OA) (D E:Nat),c0=Mv A B C D E/\k.le l/\aC P A8d #[Mv A B C D E,Mv v w x y z] l (fun c1 m=>∃ (F:Int) (G:Int) (H:OA) (J L:Nat) (b4:Int),c1= .tuple #[Mv F G H J L,I b4]/\l.le m/\aC P Qp #[Mv a c d e f,I 0,I b,I b,I a] m (fun c2 n=>∃ (M:Int) (N:Int) (O:OA) (Q R:Nat),c2=Mv M N O Q R/\m.le n/\aC P A8d #[Mv F G H J L,Mv M N O Q R] n (fun c3 o=>∃ (S:Int) (T:Int) (V:OA) (W X:Nat) (b5:Int),c3= .tuple #[Mv S T V W X,I b5]/\n.le o/\aC P Qp #[Mv a c d e f,I b,I a,I b,I a] o (fun c4 p=>∃ (Z:Int) (a0:Int) (a1:OA) (a2 a3:Nat),c4=Mv Z a0 a1 a2 a3/\o.le p/\aC P B3p #[Mv Z a0 a1 a2 a3,Mv S T V W X] p (fun c5 b0=>∃ (a4:Int) (a5:Int) (a6:OA) (a7 a8:Nat) (a9:Int),c5= .tuple #[Mv a4 a5 a6 a7 a8,I a9]/\p.le b0/\K (.tuple #[Mv a4 a5 a6 a7 a8,I a9]) b0)))))))))))))
def B63 a b c d e f(hvc:C0l prog a b c d e f h K):aC prog A1h #[Mv a b c d e,I f] h K:=
 fnk func26 { orders:=[(10,([0,1,2,3,5,10,4,6,7,8,9,11,12],[])),(11,([0,1,2,3,4,10,5,6,7,8,9,11,12],[])),(12,([0,1,2,3,4,6,5,7,8,9,10,11],[]))] } [2,4,9,11,13] [] hvc
def C4x(P:aG)(w:Int)(b:Int)(u:OA)(x l:Nat)(q:Int)(r:Int)(c:Int)(d:Int)(h:aH)(K:VP):Prop:=
 ∃ (m:LP) (s:LN),m [I q,I (B7 (r-q)),I (B7 (d-c)),N0] h/\
 ∀ a e f g i j k,m [I a,I e,I f,.slice g i j] k->Bd (a<r) ((0<=B7 ((B7 (a*b))+d)/\B7 ((B7 (a*b))+d)<=(l:Int))/\(0<=B7 ((B7 (a*b))+c)/\B7 ((B7 (a*b))+c)<=(((B7 ((B7 (a*b))+d)).toNat:Nat):Int))/\wpH P (aF #[38,38] 38 #[Sl g i j,.slice (H9 u l ((B7 ((B7 (a*b))+c)).toNat) 1) (((B7 ((B7 (a*b))+d)).toNat)-((B7 ((B7 (a*b))+c)).toNat)) (l-((B7 ((B7 (a*b))+c)).toNat))]) (fun v t=>∃ n o p,v=Sl n o p/\m [I (B7 (a+1)),I e,I f,.slice n o p] t/\s [I (B7 (a+1)),I e,I f,.slice n o p] t<s [I a,I e,I f,.slice g i j] k) k)
 (K (Mv e f g i j) k)
def B8x a b c d e f g i j(hvc:C4x prog a b c d e f g i j h K):aC prog Qp #[Mv a b c d e,I f,I g,I i,I j] h K:=
 fnk func96 { loops:=[(3,⟨[12],[(11,3)],[I 0,I 0,I 0,N0],⟨([12]++Lrg 21 24),[11]⟩⟩)] } [5,10,11] [1000000000] hvc
def Dl(P:aG)(i:OA)(j k:Nat)(a:Int)(h:aH)(K:VP):Prop:=
 aC P Ae #[Sl i j k,I a] h (fun l m=>∃ (b:OA),l= .pointer b/\aC P Rs #[I 1] m (fun n o=>∃ d e f g,n=Zv d e f g/\wpH P (Instr.box 140 (.agg #[I a,I 0,.pointer b,.bool d,Sl e f g,Sl none 0 0,Sl none 0 0])) (fun p q=>∃ (c:Addr),p= .pointer (some c)/\K (.pointer (some c)) q) o))
def Dx a b c d(hvc:Dl prog a b c d h K):aC prog T3 #[Sl a b c,I d] h K:=
 fnk func89 an0 [] [1000000000] hvc
def Zw(P:aG)(d7:OA)(d8 d9:Nat)(c:Int)(h:aH)(K:VP):Prop:=
 aC P T3 #[Sl d7 d8 d9,I c] h (fun e1 e2=>∃ (b:OA),e1= .pointer b/\wpH P (Instr.makeSlice 128 (I (B7 (c*c))) (I (B7 (c*c)))) (fun e3 e4=>∃ M N O,e3=Sl M N O/\∃ Q,b=some Q/\wpH P (aE 128 (.pointer (some (Q.add 5))) (.slice M N O)) (fun _ e5=>wpH P (Instr.makeSlice 128 (I c) (I c)) (fun e6 e7=>∃ R S T,e6=Sl R S T/\∃ V,b=some V/\wpH P (aE 128 (.pointer (some (V.add 6))) (.slice R S T)) (fun _ e8=>∃ (r:LP) (s:LN),r [.bool true,I 0] e8/\
 ∀ e a p,r [.bool e,I a] p->Bd (a<c) (aC P B08 #[.pointer b,I a,I a] p (fun e9 f0=>∃ f g i j k l m n,e9=Qv f g i j k l m n/\aC P Kb #[.pointer b] f0 (fun f1 f2=>∃ (e0:Int) (z:Bool),f1= .tuple #[I e0,.bool z]/\∃ (u:LP),(aC P A17 #[Qv f g i j k l m n] f2 (fun f3 D=>∃ W,f3=I W/\Bd (W<(0:Int)) (K (.tuple #[.pointer b,.bool false]) D)
 (aC P Od #[Qv f g i j k l m n] D (fun f4 w=>∃ (A:Bool),f4= .bool A/\Br A (Br z (K (.tuple #[.pointer b,.bool false]) w)
 (u [.bool e] w))
 (u [.bool e] w)))))/\
 ∀ q t,u [.bool q] t->∃ X,b=some X/\∃ Z a0 g1,Hd t (X.add 5) Z a0 g1<|aC P Tf #[I 1] t (fun f5 E=>∃ a1 a2 a3 a4 a5 a6 a7 a8,f5=Qv a1 a2 a3 a4 a5 a6 a7 a8/\t.le E/\∃ a9,Ax Z a9 (B7 ((B7 (a*c))+a)) a0<|wpH P (aE 145 (.pointer (some (a9.add ((B7 ((B7 (a*c))+a)).toNat*4)))) (Qv a1 a2 a3 a4 a5 a6 a7 a8)) (fun _ F=>∃ b0,b=some b0/\∃ b1 b2 g2,Hd F (b0.add 6) b1 b2 g2 <| ∃ b3,Ax b1 b3 a b2<|wpH P (aE 145 (.pointer (some (b3.add (a.toNat*4)))) (Qv f g i j k l m n)) (fun _ f6=>aC P Od #[Qv f g i j k l m n] f6 (fun f7 x=>∃ (B:Bool),f7= .bool B/\Br B (∃ b4,b=some b4/\∃ b5,x.cell? (b4.add 1)=some (I b5)/\∃ b6,b=some b6/\wpH P (aE 3 (.pointer (some (b6.add 1))) (I (B7 (b5+1)))) (fun _ G=>r [.bool q,I (B7 (a+1))] G/\s [.bool q,I (B7 (a+1))] G<s [.bool e,I a] p) x)
 (∃ (v:LP) (C:LN),v [I (B7 (a+1))] x/\
 ∀ d o,v [I d] o->Bd (d<c) (∃ b7,b=some b7/\∃ b8 b9 g3,Hd o (b7.add 5) b8 b9 g3<|aC P B08 #[.pointer b,I d,I a] o (fun f8 y=>∃ c0 c1 c2 c3 c4 c5 c6 c7,f8=Qv c0 c1 c2 c3 c4 c5 c6 c7/\o.le y/\aC P Yt #[Qv c0 c1 c2 c3 c4 c5 c6 c7,Qv f g i j k l m n] y (fun f9 H=>∃ c8 c9 d0 d1 d2 d3 d4 d5,f9=Qv c8 c9 d0 d1 d2 d3 d4 d5/\y.le H/\∃ d6,Ax b8 d6 (B7 ((B7 (d*c))+a)) b9<|wpH P (aE 145 (.pointer (some (d6.add ((B7 ((B7 (d*c))+a)).toNat*4)))) (Qv c8 c9 d0 d1 d2 d3 d4 d5)) (fun _ J=>v [I (B7 (d+1))] J/\C [I (B7 (d+1))] J<C [I d] o) H)))
 (aC P Cp #[.pointer b] o (fun g0 L=>g0= .tuple #[]/\r [.bool q,I (B7 (a+1))] L/\s [.bool q,I (B7 (a+1))] L<s [.bool e,I a] p))))) F) E))))
 (K (.tuple #[.pointer b,.bool e]) p)) e7) e5) e4) e2)
def A2d a b c d(hvc:Zw prog a b c d h K):aC prog Ip #[Sl a b c,I d] h K:=
 fnk func86 ⟨[(6,⟨[7,29],[],[.bool false,I 0],⟨([7,8,9,10,11,12]++Lrg 29 75),[9]⟩⟩),(17,⟨[12],[],[I 0],⟨([12]++Lrg 80 21),[]⟩⟩)],[(12,⟨[7],[],[.bool false],⟨([7]++Lrg 41 10),[]⟩⟩)],[(19,((Lrg 0 12++[13,12,14,15,16]),[]))],[],[]⟩ [9] [93] hvc
def A9a(P:aG)(i:Int)(G:Int)(H:OA)(J L:Nat)(h:aH)(K:VP):Prop:=
 aC P Vm #[Mv i G H J L] h (fun M q=>∃ (m:OA) (n o:Nat) (j:Int),M= .tuple #[Sl m n o,I j]/\Br (j != (0:Int)) (K (.tuple #[I 0,I 0,I 0,I j]) q)
 (aC P T3 #[Sl m n o,I i] q (fun N O=>∃ (c:OA),N= .pointer c/\∃ (e:LP) (f:LN),e [I 0,I 0] O/\
 ∀ a b g,e [I a,I b] g->aC P Qo #[.pointer c] g (fun Q d=>∃ (p:Bool),Q= .bool p/\Br p (∃ t,c=some t/\∃ u,d.cell? (t.add 1)=some (I u)/\∃ v,c=some v/\∃ w,d.cell? (v.add 1)=some (I w)/\aC P B08 #[.pointer c,I u,I w] d (fun R k=>∃ x y z A B C D E,R=Qv x y z A B C D E/\d.le k/\aC P A17 #[Qv x y z A B C D E] k (fun S l=>∃ F,S=I F/\k.le l/\Bd (F>(0:Int)) (aC P Cp #[.pointer c] l (fun T r=>T= .tuple #[]/\e [I (B7 (a+1)),I b] r/\f [I (B7 (a+1)),I b] r<f [I a,I b] g))
 (aC P Cp #[.pointer c] l (fun V s=>V= .tuple #[]/\e [I a,I (B7 (b+1))] s/\f [I a,I (B7 (b+1))] s<f [I a,I b] g)))))
 (K (.tuple #[I a,I (B7 ((B7 (i-a))-b)),I b,I 0]) d)))))
def A7g a b c d e(hvc:A9a prog a b c d e h K):aC prog Kc #[Mv a b c d e] h K:=
 fnk func24 { loops:=[(6,⟨[9,10],[],[I 0,I 0],⟨([9,10]++Lrg 23 20),[]⟩⟩)] } [1] [90,93] hvc
def EAt(P:aG)(b:OA)(c:Int)(e:Int)(h:aH)(K:VP):Prop:=
 ∃ j,b=some j/\∃ (f:OA),h.cell? (j.add 2)=some (.pointer f)/\∃ k,b=some k/\∃ l m n o,Lz h (k.add 3) l m n o <| ∃ p,b=some p/\∃ (g:OA),h.cell? (p.add 2)=some (.pointer g)/\∃ q,g=some q/\∃ r s a7,Hd h (q.add 2) r s a7 <| ∃ t,Ax r t c s <| ∃ u v w x y z A B,Lq h (t.add (c.toNat*4)) u v w x y z A B<|aC P Y9 #[.pointer f,I c] h (fun a4 a=>∃ C D a8,a4=Sl C D a8/\h.le a/\∃ E,Ax C E e D <| ∃ F G H J,Lz a (E.add (e.toNat*2)) F G H J<|aC P S0 #[Zv F G H J,Zv l m n o] a (fun a5 d=>∃ L M N O Q R S T,a5=Qv L M N O Q R S T/\a.le d/\aC P Yt #[Qv L M N O Q R S T,Qv u v w x y z A B] d (fun a6 i=>∃ V W X Z a0 a1 a2 a3,a6=Qv V W X Z a0 a1 a2 a3/\d.le i/\K (Qv V W X Z a0 a1 a2 a3) i)))
def C4v a b c(hvc:EAt prog a b c h K):aC prog B08 #[.pointer a,I b,I c] h K:=
 fnk func91 { orders:=[(1,(([0,1,2,3,4,6,9,10,11,12]++Lrg 14 10++[5,7,8,13,24,25]),[]))] } [6] [] hvc
def A99(P:aG)(a:OA)(h:aH)(K:VP):Prop:=
 ∃ m,a=some m/\∃ c,h.cell? (m.add 1)=some (I c)/\∃ (e:LP) (f:LN),e [I (B7 (c+1))] h/\
 ∀ d b,e [I d] b->∃ n,a=some n/\∃ o,b.cell? (n.add 0)=some (I o)/\Bd (d<o) (∃ p,a=some p/\∃ (g:OA),b.cell? (p.add 2)=some (.pointer g)/\∃ q,a=some q/\∃ r s t u,Lz b (q.add 3) r s t u<|aC P Tm #[.pointer g,I d,I c,I c,Zv r s t u] b (fun H j=>H= .tuple #[]/\e [I (B7 (d+1))] j/\f [I (B7 (d+1))] j<f [I d] b))
 (∃ v,a=some v/\∃ (i:OA),b.cell? (v.add 2)=some (.pointer i)/\aC P Y9 #[.pointer i,I c] b (fun J k=>∃ w x M,J=Sl w x M/\∃ y,Ax w y c x <| ∃ z A B C,Lz k (y.add (c.toNat*2)) z A B C <| ∃ D,a=some D/\wpH P (aE 138 (.pointer (some (D.add 3))) (Zv z A B C)) (fun _ l=>∃ E,a=some E/\∃ F,l.cell? (E.add 1)=some (I F)/\∃ G,a=some G/\wpH P (aE 3 (.pointer (some (G.add 1))) (I (B7 (F+1)))) (fun _ L=>K (.tuple #[]) L) l) k))
def A7f a(hvc:A99 prog a h K):aC prog Cp #[.pointer a] h K:=
 fnk func93 { loops:=[(2,⟨[3],[],[I 0],⟨([3]++Lrg 10 20),[]⟩⟩)] } [] [172] hvc
def A98(P:aG)(c:OA)(h:aH)(K:VP):Prop:=
 ∃ l,c=some l/\∃ m,h.cell? (l.add 1)=some (I m)/\∃ (f:LP) (i:LN),f [I (B7 (m+1))] h/\
 ∀ b a,f [I b] a->∃ n,c=some n/\∃ o,a.cell? (n.add 0)=some (I o)/\Bd (b<o) (∃ p,c=some p/\∃ (j:OA),a.cell? (p.add 2)=some (.pointer j)/\∃ q,c=some q/\∃ g,a.cell? (q.add 1)=some (I g)/\aC P Y9 #[.pointer j,I b] a (fun y d=>∃ r s A,y=Sl r s A/\a.le d/\∃ t,Ax r t g s <| ∃ u v w x,Lz d (t.add (g.toNat*2)) u v w x<|aC P F0 #[Zv u v w x] d (fun z e=>∃ (k:Bool),z= .bool k/\d.le e/\Br (!k) (K (.tuple #[I b,.bool true]) e)
 (f [I (B7 (b+1))] e/\i [I (B7 (b+1))] e<i [I b] a))))
 (K (.tuple #[I 0,.bool false]) a)
def A7e a(hvc:A98 prog a h K):aC prog Kb #[.pointer a] h K:=
 fnk func157 ⟨[(2,⟨[4],[],[I 0],⟨([2,3,4]++Lrg 10 23),[]⟩⟩)],[],[(4,([0,1,2,3,4,6,7,8,9,5,10,11,12,13],[]))],[],[]⟩ [] [] hvc
def A97(P:aG)(a:OA)(h:aH)(K:VP):Prop:=
 ∃ J,a=some J/\∃ L,h.cell? (J.add 1)=some (I L)/\∃ (p:LP) (t:LN),p [I L] h/\
 ∀ d e,p [I d] e->∃ M,a=some M/\∃ N,e.cell? (M.add 0)=some (I N)/\Bd (d<N) (∃ O,a=some O/\∃ (u:OA),e.cell? (O.add 2)=some (.pointer u)/\aC P Y9 #[.pointer u,I d] e (fun d6 D=>∃ Q R e7,d6=Sl Q R e7/\∃ S,Ax Q S d R <| ∃ T V W X,Lz D (S.add (d.toNat*2)) T V W X<|aC P F0 #[Zv T V W X] D (fun d7 k=>∃ (v:Bool),d7= .bool v/\Br (!v) (∃ Z,a=some Z/\∃ a0,k.cell? (Z.add 1)=some (I a0)/\aC P Gn #[.pointer a,I a0,I d] k (fun d8 d9=>d8= .tuple #[]/\K (.bool true) d9))
 (p [I (B7 (d+1))] k/\t [I (B7 (d+1))] k<t [I d] e))))
 (∃ a1,a=some a1/\∃ a2,e.cell? (a1.add 1)=some (I a2)/\∃ (q:LP) (w:LN),q [I a2] e/\
 ∀ b j,q [I b] j->∃ a3,a=some a3/\∃ a4,j.cell? (a3.add 0)=some (I a4)/\Bd (b<a4) (∃ (r:LP) (x:LN),r [I (B7 (b+1))] j/\
 ∀ c f,r [I c] f->∃ a5,a=some a5/\∃ a6,f.cell? (a5.add 0)=some (I a6)/\Bd (c<a6) (∃ a7,a=some a7/\∃ (y:OA),f.cell? (a7.add 2)=some (.pointer y)/\aC P Y9 #[.pointer y,I b] f (fun e0 E=>∃ a8 a9 e8,e0=Sl a8 a9 e8/\∃ b0,Ax a8 b0 c a9 <| ∃ b1 b2 b3 b4,Lz E (b0.add (c.toNat*2)) b1 b2 b3 b4<|aC P F0 #[Zv b1 b2 b3 b4] E (fun e1 l=>∃ (z:Bool),e1= .bool z/\Br z (r [I (B7 (c+1))] l/\x [I (B7 (c+1))] l<x [I c] f)
 (∃ b5,a=some b5/\∃ (A:OA),l.cell? (b5.add 2)=some (.pointer A)/\aC P 168 #[.pointer A,I b,I c] l (fun e2 F=>e2= .tuple #[]/\∃ b6,a=some b6/\∃ b7,F.cell? (b6.add 0)=some (I b7)/\∃ (s:LP) (B:LN),s [I 0] F/\
 ∀ g i,s [I g] i->Bd (g<b7) (∃ b8,a=some b8/\∃ (C:OA),i.cell? (b8.add 2)=some (.pointer C)/\aC P Y9 #[.pointer C,I g] i (fun e3 m=>∃ n o e9,e3=Sl n o e9/\∃ b9,Ax n b9 b o <| ∃ c0 c1 c2 c3,Lz m (b9.add (b.toNat*2)) c0 c1 c2 c3 <| ∃ c4,Ax n c4 c o <| ∃ c5 c6 c7 c8,Lz m (c4.add (c.toNat*2)) c5 c6 c7 c8<|aC P Rr #[Zv c0 c1 c2 c3,Zv c5 c6 c7 c8] m (fun e4 G=>∃ c9 d0 d1 d2,e4=Zv c9 d0 d1 d2/\m.le G/\∃ d3,Ax n d3 b o<|wpH P (aE 138 (.pointer (some (d3.add (b.toNat*2)))) (Zv c9 d0 d1 d2)) (fun _ H=>s [I (B7 (g+1))] H/\B [I (B7 (g+1))] H<B [I g] i) G)))
 (∃ d4,a=some d4/\∃ d5,i.cell? (d4.add 1)=some (I d5)/\aC P Gn #[.pointer a,I d5,I b] i (fun e5 e6=>e5= .tuple #[]/\K (.bool true) e6)))))))
 (q [I (B7 (b+1))] f/\w [I (B7 (b+1))] f<w [I b] j))
 (K (.bool false) j))
def A7d a(hvc:A97 prog a h K):aC prog Qo #[.pointer a] h K:=
 fnk func90 { loops:=[(2,⟨[3],[],[I 0],⟨([2,3]++Lrg 12 26),[]⟩⟩),(8,⟨[4],[],[I 0],⟨([2,4,5,6,7]++Lrg 42 68),[]⟩⟩),(11,⟨[5],[],[I 0],⟨([2,5,6,7]++Lrg 52 58),[]⟩⟩),(16,⟨[81],[],[I 0],⟨([6,7]++Lrg 81 22),[]⟩⟩)] } [] [167,168] hvc
def A55(P:aG)(g:OA)(a:Int)(b:Int)(h:aH)(K:VP):Prop:=
 Br (a==b) (K (.tuple #[]) h)
 (∃ p,g=some p/\∃ (k:OA),h.cell? (p.add 2)=some (.pointer k)/\aC P A1j #[.pointer k,I a,I b] h (fun F n=>F= .tuple #[]/\∃ q,g=some q/\∃ r,n.cell? (q.add 0)=some (I r)/\∃ (i:LP) (l:LN),i [I 0] n/\
 ∀ c d,i [I c] d->Bd (c<r) (∃ s,g=some s/\∃ (m:OA),d.cell? (s.add 2)=some (.pointer m)/\aC P Y9 #[.pointer m,I c] d (fun G j=>∃ e f J,G=Sl e f J/\∃ t,Ax e t b f <| ∃ u v w x,Lz j (t.add (b.toNat*2)) u v w x <| ∃ y,Ax e y a f <| ∃ z A B C,Lz j (y.add (a.toNat*2)) z A B C <| ∃ D,Ax e D a f<|wpH P (aE 138 (.pointer (some (D.add (a.toNat*2)))) (Zv u v w x)) (fun _ H=>∃ E,Ax e E b f<|wpH P (aE 138 (.pointer (some (E.add (b.toNat*2)))) (Zv z A B C)) (fun _ o=>i [I (B7 (c+1))] o/\l [I (B7 (c+1))] o<l [I c] d) H) j))
 (K (.tuple #[]) d)))
def A54 a b c(hvc:A55 prog a b c h K):aC prog Gn #[.pointer a,I b,I c] h K:=
 fnk func167 { loops:=[(3,⟨[22],[],[I 0],⟨([6,7]++Lrg 22 24),[]⟩⟩)] } [] [237] hvc
def B5u(P:aG)(f:Int)(d:Int)(g:OA)(i w:Nat)(h:aH)(K:VP):Prop:=
 aC P A6m #[Mv f d g i w] h (fun x l=>∃ (m:OA) (n o:Nat) (p:Bool),x= .tuple #[Sl m n o,.bool p]/\Br (!p) (K (.tuple #[Sl none 0 0,I 1]) l)
 (Br (f != d) (K (.tuple #[Sl none 0 0,I 4]) l)
 (∃ (j:LP) (q:LN),j [I 0] l/\
 ∀ a e,j [I a] e->Bd (a<f) (∃ (k:LP) (r:LN),k [I 0] e/\
 ∀ b c,k [I b] c->Bd (b<a) (∃ u,Ax g u (B7 ((B7 (a*d))+b)) i <| ∃ (s:ByteArray),c.cell? (u.add ((B7 ((B7 (a*d))+b)).toNat*1))=some (.string s)/\∃ v,Ax g v (B7 ((B7 (b*d))+a)) i <| ∃ (t:ByteArray),c.cell? (v.add ((B7 ((B7 (b*d))+a)).toNat*1))=some (.string t)/\Br (!(s.toList==t.toList)) (K (.tuple #[Sl none 0 0,I 4]) c)
 (k [I (B7 (b+1))] c/\r [I (B7 (b+1))] c<r [I b] c))
 (j [I (B7 (a+1))] c/\q [I (B7 (a+1))] c<q [I a] e))
 (K (.tuple #[Sl m n o,I 0]) e))))
def B13 a b c d e(hvc:B5u prog a b c d e h K):aC prog In #[Mv a b c d e] h K:=
 fnk func32 { loops:=[(7,⟨[6],[],[I 0],⟨([2,3,6,7]++Lrg 20 32),[]⟩⟩),(10,⟨[7],[],[I 0],⟨([2,3,7]++Lrg 26 26),[]⟩⟩)] } [1] [] hvc
def Zu(P:aG)(n1:OA)(k n2:Nat)(h:aH)(K:VP):Prop:=
 aC P Vl #[Sl n1 k n2] h (fun n3 n4=>∃ f g o8,n3=Sl f g o8/\aC P Vi #[I (k:Int)] n4 (fun n5 n6=>∃ o p F,n5=Sl o p F/\∃ (t:LP) (A:LN),t [N0,I 0] n6/\
 ∀ q r s a j,t [.slice q r s,I a] j->Bd (a<(k:Int)) (∃ G,Ax f G a g <| ∃ H J o9,Hd j (G.add (a.toNat*1)) H J o9 <| ∃ L,Ax H L a J <| ∃ M N O Q R S T V,Lq j (L.add (a.toNat*4)) M N O Q R S T V<|aC P U4 #[Qv M N O Q R S T V] j (fun n7 n=>∃ W,n7=I W/\Bd (W<(0:Int)) (K (.tuple #[Sl none 0 0,Sl none 0 0,.bool false]) n)
 (∃ X,Ax f X a g <| ∃ Z a0 p0,Hd n (X.add (a.toNat*1)) Z a0 p0 <| ∃ a1,Ax Z a1 a a0 <| ∃ a2 a3 a4 a5 a6 a7 a8 a9,Lq n (a1.add (a.toNat*4)) a2 a3 a4 a5 a6 a7 a8 a9<|wpH P (aD 75 1 #[(0,Qv a2 a3 a4 a5 a6 a7 a8 a9)]) (fun n8 n9=>∃ b0 b1 b2,n8=Sl b0 b1 b2/\wpH P (aF #[75,75] 75 #[Sl q r s,Sl b0 b1 b2]) (fun o0 o1=>∃ x y z,o0=Sl x y z/\∃ (l:LP) (m:LN),l [I (B7 (a+1))] o1/\
 ∀ b i,l [I b] i->Bd (b<(k:Int)) (∃ b3,Ax f b3 a g <| ∃ b4 b5 p1,Hd i (b3.add (a.toNat*1)) b4 b5 p1 <| ∃ b6,Ax b4 b6 a b5 <| ∃ b7 b8 b9 c0 c1 c2 c3 c4,Lq i (b6.add (a.toNat*4)) b7 b8 b9 c0 c1 c2 c3 c4<|aC P U4 #[Qv b7 b8 b9 c0 c1 c2 c3 c4] i (fun o2 e=>∃ c5,o2=I c5/\Br (c5==(0:Int)) (∃ c6,Ax f c6 b g <| ∃ c7 c8 p2,Hd e (c6.add (b.toNat*1)) c7 c8 p2 <| ∃ c9,Ax c7 c9 a c8 <| ∃ d0 d1 d2 d3 d4 d5 d6 d7,Lq e (c9.add (a.toNat*4)) d0 d1 d2 d3 d4 d5 d6 d7<|aC P U4 #[Qv d0 d1 d2 d3 d4 d5 d6 d7] e (fun o3 v=>∃ d8,o3=I d8/\Br (d8 != (0:Int)) (K (.tuple #[Sl none 0 0,Sl none 0 0,.bool false]) v)
 (l [I (B7 (b+1))] v/\m [I (B7 (b+1))] v<m [I b] i)))
 (∃ d9,Ax o d9 b p <| ∃ e0 e1 p3,Hd e (d9.add (b.toNat*1)) e0 e1 p3 <| ∃ e2,Ax f e2 b g <| ∃ e3 e4 p4,Hd e (e2.add (b.toNat*1)) e3 e4 p4 <| ∃ e5,Ax e3 e5 a e4 <| ∃ e6 e7 e8 e9 f0 f1 f2 f3,Lq e (e5.add (a.toNat*4)) e6 e7 e8 e9 f0 f1 f2 f3 <| ∃ f4,Ax f f4 a g <| ∃ f5 f6 p5,Hd e (f4.add (a.toNat*1)) f5 f6 p5 <| ∃ f7,Ax f5 f7 a f6 <| ∃ f8 f9 g0 g1 g2 g3 g4 g5,Lq e (f7.add (a.toNat*4)) f8 f9 g0 g1 g2 g3 g4 g5<|aC P Vg #[Qv e6 e7 e8 e9 f0 f1 f2 f3,Qv f8 f9 g0 g1 g2 g3 g4 g5] e (fun o4 C=>∃ g6 g7 g8 g9 h0 h1 h2 h3,o4=Qv g6 g7 g8 g9 h0 h1 h2 h3/\e.le C/\∃ h4,Ax e0 h4 a e1<|wpH P (aE 81 (.pointer (some (h4.add (a.toNat*4)))) (Qv g6 g7 g8 g9 h0 h1 h2 h3)) (fun _ o5=>∃ (u:LP) (B:LN),u [I (B7 (a+1))] o5/\
 ∀ d c,u [I d] c->Bd (d<(k:Int)) (∃ h5,Ax f h5 b g <| ∃ h6 h7 p6,Hd c (h5.add (b.toNat*1)) h6 h7 p6 <| ∃ h8,Ax f h8 b g <| ∃ h9 i0 p7,Hd c (h8.add (b.toNat*1)) h9 i0 p7 <| ∃ i1,Ax h9 i1 d i0 <| ∃ i2 i3 i4 i5 i6 i7 i8 i9,Lq c (i1.add (d.toNat*4)) i2 i3 i4 i5 i6 i7 i8 i9 <| ∃ j0,Ax o j0 b p <| ∃ j1 j2 p8,Hd c (j0.add (b.toNat*1)) j1 j2 p8 <| ∃ j3,Ax j1 j3 a j2 <| ∃ j4 j5 j6 j7 j8 j9 k0 k1,Lq c (j3.add (a.toNat*4)) j4 j5 j6 j7 j8 j9 k0 k1 <| ∃ k2,Ax f k2 a g <| ∃ k3 k4 p9,Hd c (k2.add (a.toNat*1)) k3 k4 p9 <| ∃ k5,Ax k3 k5 d k4 <| ∃ k6 k7 k8 k9 l0 l1 l2 l3,Lq c (k5.add (d.toNat*4)) k6 k7 k8 k9 l0 l1 l2 l3<|aC P Ls #[Qv j4 j5 j6 j7 j8 j9 k0 k1,Qv k6 k7 k8 k9 l0 l1 l2 l3] c (fun o6 w=>∃ l4 l5 l6 l7 l8 l9 m0 m1,o6=Qv l4 l5 l6 l7 l8 l9 m0 m1/\c.le w/\aC P Lr #[Qv i2 i3 i4 i5 i6 i7 i8 i9,Qv l4 l5 l6 l7 l8 l9 m0 m1] w (fun o7 D=>∃ m2 m3 m4 m5 m6 m7 m8 m9,o7=Qv m2 m3 m4 m5 m6 m7 m8 m9/\w.le D/\∃ n0,Ax h6 n0 d h7<|wpH P (aE 81 (.pointer (some (n0.add (d.toNat*4)))) (Qv m2 m3 m4 m5 m6 m7 m8 m9)) (fun _ E=>u [I (B7 (d+1))] E/\B [I (B7 (d+1))] E<B [I d] c) D)))
 (l [I (B7 (b+1))] c/\m [I (B7 (b+1))] c<m [I b] i)) C))))
 (t [.slice x y z,I (B7 (a+1))] i/\A [.slice x y z,I (B7 (a+1))] i<A [.slice q r s,I a] j)) n9) n)))
 (K (.tuple #[Sl o p F,Sl q r s,.bool true]) j)))
def A2c a b c(hvc:Zu prog a b c h K):aC prog Io #[Sl a b c] h K:=
 fnk func88 { loops:=[(5,⟨[8,9],[],[N0,I 0],⟨([2,3,4,8,9,10,11]++Lrg 18 106),[]⟩⟩),(11,⟨[10],[],[I 0],⟨([2,3,4,10,11]++Lrg 44 80),[]⟩⟩),(18,⟨[11],[],[I 0],⟨([11]++Lrg 90 34),[]⟩⟩)] } [] [] hvc
def B5y(P:aG)(w:Int)(x:Int)(y:OA)(z A:Nat)(h:aH)(K:VP):Prop:=
 aC P In #[Mv w x y z A] h (fun B r=>∃ (b:OA) (c d:Nat) (a:Int),B= .tuple #[Sl b c d,I a]/\Br (a != (0:Int)) (K (.tuple #[.agg #[I 0,I 0,Sl none 0 0,Sl none 0 0],.bool false,I a]) r)
 (aC P Io #[Sl b c d] r (fun C s=>∃ (e:OA) (f g:Nat) (i:OA) (j k:Nat) (l:Bool),C= .tuple #[Sl e f g,Sl i j k,.bool l]/\Br (!l) (K (.tuple #[.agg #[I 0,I 0,Sl none 0 0,Sl none 0 0],.bool false,I 0]) s)
 (aC P Lw #[Sl e f g] s (fun D E=>∃ (m:Int) (n:Int) (o:OA) (p q:Nat),D=Mv m n o p q/\aC P Ti #[Sl i j k] E (fun F G=>∃ t u v,F=Sl t u v/\K (.tuple #[.agg #[I m,I n,Sl o p q,Sl t u v],.bool true,I 0]) G))))))
def B14 a b c d e(hvc:B5y prog a b c d e h K):aC prog Vh #[Mv a b c d e] h K:=
 fnk func23 an0 [1,2] [] hvc
def C0g(P:aG)(i2:OA)(n i3:Nat)(h:aH)(K:VP):Prop:=
 aC P Vl #[Sl i2 n i3] h (fun i4 i5=>∃ e f L,i4=Sl e f L/\∃ (p:LP) (q:LN),p [I 0,I 0,I 0,I 0] i5/\
 ∀ i j k a o,p [I i,I j,I k,I a] o->Bd (a<(n:Int)) (aC P A1g #[Sl e f L,I a] o (fun i6 w=>i6= .tuple #[]/\∃ (s:LP),(∃ M,Ax e M a f <| ∃ N O j1,Hd w (M.add (a.toNat*1)) N O j1 <| ∃ Q,Ax N Q a O <| ∃ R S T V W X Z a0,Lq w (Q.add (a.toNat*4)) R S T V W X Z a0<|aC P U4 #[Qv R S T V W X Z a0] w (fun i7 r=>∃ y,i7=I y/\Br (y==(0:Int)) (p [I i,I (B7 (j+1)),I k,I (B7 (a+1))] r/\q [I i,I (B7 (j+1)),I k,I (B7 (a+1))] r<q [I i,I j,I k,I a] o)
 (Br (y==(1:Int)) (s [I (B7 (i+1)),I j,I k] r)
 (s [I i,I j,I (B7 (k+1))] r))))/\
 ∀ z A B a1,s [I z,I A,I B] a1->∃ (t:LP) (C:LN),t [I (B7 (a+1))] a1/\
 ∀ b g,t [I b] g->Bd (b<(n:Int)) (∃ a2,Ax e a2 b f <| ∃ a3 a4 j2,Hd g (a2.add (b.toNat*1)) a3 a4 j2 <| ∃ a5,Ax a3 a5 a a4 <| ∃ a6 a7 a8 a9 b0 b1 b2 b3,Lq g (a5.add (a.toNat*4)) a6 a7 a8 a9 b0 b1 b2 b3 <| ∃ b4,Ax e b4 a f <| ∃ b5 b6 j3,Hd g (b4.add (a.toNat*1)) b5 b6 j3 <| ∃ b7,Ax b5 b7 a b6 <| ∃ b8 b9 c0 c1 c2 c3 c4 c5,Lq g (b7.add (a.toNat*4)) b8 b9 c0 c1 c2 c3 c4 c5<|aC P Vg #[Qv a6 a7 a8 a9 b0 b1 b2 b3,Qv b8 b9 c0 c1 c2 c3 c4 c5] g (fun i8 F=>∃ c6 c7 c8 c9 d0 d1 d2 d3,i8=Qv c6 c7 c8 c9 d0 d1 d2 d3/\g.le F/\∃ (u:LP) (D:LN),u [I a] F/\
 ∀ c d,u [I c] d->Bd (c<(n:Int)) (∃ d4,Ax e d4 b f <| ∃ d5 d6 j4,Hd d (d4.add (b.toNat*1)) d5 d6 j4 <| ∃ d7,Ax e d7 b f <| ∃ d8 d9 j5,Hd d (d7.add (b.toNat*1)) d8 d9 j5 <| ∃ e0,Ax d8 e0 c d9 <| ∃ e1 e2 e3 e4 e5 e6 e7 e8,Lq d (e0.add (c.toNat*4)) e1 e2 e3 e4 e5 e6 e7 e8 <| ∃ e9,Ax e e9 a f <| ∃ f0 f1 j6,Hd d (e9.add (a.toNat*1)) f0 f1 j6 <| ∃ f2,Ax f0 f2 c f1 <| ∃ f3 f4 f5 f6 f7 f8 f9 g0,Lq d (f2.add (c.toNat*4)) f3 f4 f5 f6 f7 f8 f9 g0<|aC P Ls #[Qv c6 c7 c8 c9 d0 d1 d2 d3,Qv f3 f4 f5 f6 f7 f8 f9 g0] d (fun i9 x=>∃ g1 g2 g3 g4 g5 g6 g7 g8,i9=Qv g1 g2 g3 g4 g5 g6 g7 g8/\d.le x/\aC P Lr #[Qv e1 e2 e3 e4 e5 e6 e7 e8,Qv g1 g2 g3 g4 g5 g6 g7 g8] x (fun j0 G=>∃ g9 h0 h1 h2 h3 h4 h5 h6,j0=Qv g9 h0 h1 h2 h3 h4 h5 h6/\x.le G/\∃ h7,Ax d5 h7 c d6<|wpH P (aE 81 (.pointer (some (h7.add (c.toNat*4)))) (Qv g9 h0 h1 h2 h3 h4 h5 h6)) (fun _ H=>u [I (B7 (c+1))] H/\D [I (B7 (c+1))] H<D [I c] d) G)))
 (t [I (B7 (b+1))] d/\C [I (B7 (b+1))] d<C [I b] g)))
 (∃ (v:LP) (E:LN),v [I (B7 (a+1))] g/\
 ∀ l m,v [I l] m->Bd (l<(n:Int)) (∃ h8,Ax e h8 a f <| ∃ h9 i0 j7,Hd m (h8.add (a.toNat*1)) h9 i0 j7 <| ∃ i1,Ax h9 i1 l i0<|wpH P (aE 81 (.pointer (some (i1.add (l.toNat*4)))) (Qv false none 0 0 false none 0 0)) (fun _ J=>v [I (B7 (l+1))] J/\E [I (B7 (l+1))] J<E [I l] m) m)
 (p [I z,I A,I B,I (B7 (a+1))] m/\q [I z,I A,I B,I (B7 (a+1))] m<q [I i,I j,I k,I a] o))))
 (K (.tuple #[I i,I j,I k]) o))
def B5v a b c(hvc:C0g prog a b c h K):aC prog A1e #[Sl a b c] h K:=
 fnk func94 ⟨[(5,⟨[7,8,9,10],[],[I 0,I 0,I 0,I 0],⟨(Lrg 7 8++Lrg 19 91),[12]⟩⟩),(15,⟨[11],[],[I 0],⟨([11,12,13]++Lrg 47 49),[12]⟩⟩),(19,⟨[13],[],[I 0],⟨([13]++Lrg 68 28),[]⟩⟩),(23,⟨[14],[],[I 0],⟨([14]++Lrg 98 12),[]⟩⟩)],[(14,⟨[7,8,9],[],[I 0,I 0,I 0],⟨([7,8,9]++Lrg 27 18),[]⟩⟩)],[(17,((Lrg 0 14++[15,14,16]),[]))],[],[]⟩ [12] [173] hvc
def C0i(P:aG)(d:OA)(a o3:Nat)(b:Int)(h:aH)(K:VP):Prop:=
 ∃ (p:LP) (v:LN),p [I b] h/\
 ∀ c m,p [I c] m->Bd (c<(a:Int)) (∃ F,Ax d F c a <| ∃ G H n1,Hd m (F.add (c.toNat*1)) G H n1 <| ∃ J,Ax G J c H <| ∃ L M N O Q R S T,Lq m (J.add (c.toNat*4)) L M N O Q R S T<|aC P U4 #[Qv L M N O Q R S T] m (fun m4 o=>∃ V,m4=I V/\Br (V != (0:Int)) (∃ W,Ax d W b a <| ∃ X Z a0,Hd o (W.add (b.toNat*1)) X Z a0 <| ∃ a1,Ax d a1 c a <| ∃ a2 a3 a4,Hd o (a1.add (c.toNat*1)) a2 a3 a4 <| ∃ a5,Ax d a5 c a<|wpH P (aE 75 (.pointer (some (a5.add (c.toNat*1)))) (.slice X Z a0)) (fun _ m5=>∃ a6,Ax d a6 b a<|wpH P (aE 75 (.pointer (some (a6.add (b.toNat*1)))) (.slice a2 a3 a4)) (fun _ m6=>∃ (q:LP) (w:LN),q [I 0] m6/\
 ∀ e j,q [I e] j->Bd (e<(a:Int)) (∃ a7,Ax d a7 e a <| ∃ a8 a9 n2,Hd j (a7.add (e.toNat*1)) a8 a9 n2 <| ∃ b0,Ax d b0 e a <| ∃ b1 b2 n3,Hd j (b0.add (e.toNat*1)) b1 b2 n3 <| ∃ b3,Ax d b3 e a <| ∃ b4 b5 n4,Hd j (b3.add (e.toNat*1)) b4 b5 n4 <| ∃ b6,Ax b4 b6 b b5 <| ∃ b7 b8 b9 c0 c1 c2 c3 c4,Lq j (b6.add (b.toNat*4)) b7 b8 b9 c0 c1 c2 c3 c4 <| ∃ c5,Ax d c5 e a <| ∃ c6 c7 n5,Hd j (c5.add (e.toNat*1)) c6 c7 n5 <| ∃ c8,Ax c6 c8 c c7 <| ∃ c9 d0 d1 d2 d3 d4 d5 d6,Lq j (c8.add (c.toNat*4)) c9 d0 d1 d2 d3 d4 d5 d6 <| ∃ d7,Ax a8 d7 c a9<|wpH P (aE 81 (.pointer (some (d7.add (c.toNat*4)))) (Qv b7 b8 b9 c0 c1 c2 c3 c4)) (fun _ m7=>∃ d8,Ax b1 d8 b b2<|wpH P (aE 81 (.pointer (some (d8.add (b.toNat*4)))) (Qv c9 d0 d1 d2 d3 d4 d5 d6)) (fun _ A=>q [I (B7 (e+1))] A/\w [I (B7 (e+1))] A<w [I e] j) m7) j)
 (K (.tuple #[]) j)) m5) o)
 (p [I (B7 (c+1))] o/\v [I (B7 (c+1))] o<v [I c] m)))
 (∃ (r:LP) (x:LN),r [I (B7 (b+1))] m/\
 ∀ f n,r [I f] n->Bd (f<(a:Int)) (∃ d9,Ax d d9 f a <| ∃ e0 e1 n6,Hd n (d9.add (f.toNat*1)) e0 e1 n6 <| ∃ e2,Ax e0 e2 b e1 <| ∃ e3 e4 e5 e6 e7 e8 e9 f0,Lq n (e2.add (b.toNat*4)) e3 e4 e5 e6 e7 e8 e9 f0<|aC P U4 #[Qv e3 e4 e5 e6 e7 e8 e9 f0] n (fun m8 u=>∃ f1,m8=I f1/\Br (f1 != (0:Int)) (∃ (s:LP) (y:LN),s [I 0] u/\
 ∀ g k,s [I g] k->Bd (g<(a:Int)) (∃ f2,Ax d f2 b a <| ∃ f3 f4 n7,Hd k (f2.add (b.toNat*1)) f3 f4 n7 <| ∃ f5,Ax d f5 b a <| ∃ f6 f7 n8,Hd k (f5.add (b.toNat*1)) f6 f7 n8 <| ∃ f8,Ax f6 f8 g f7 <| ∃ f9 g0 g1 g2 g3 g4 g5 g6,Lq k (f8.add (g.toNat*4)) f9 g0 g1 g2 g3 g4 g5 g6 <| ∃ g7,Ax d g7 f a <| ∃ g8 g9 n9,Hd k (g7.add (f.toNat*1)) g8 g9 n9 <| ∃ h0,Ax g8 h0 g g9 <| ∃ h1 h2 h3 h4 h5 h6 h7 h8,Lq k (h0.add (g.toNat*4)) h1 h2 h3 h4 h5 h6 h7 h8<|aC P Qk #[Qv f9 g0 g1 g2 g3 g4 g5 g6,Qv h1 h2 h3 h4 h5 h6 h7 h8] k (fun m9 B=>∃ h9 i0 i1 i2 i3 i4 i5 i6,m9=Qv h9 i0 i1 i2 i3 i4 i5 i6/\k.le B/\∃ i7,Ax f3 i7 g f4<|wpH P (aE 81 (.pointer (some (i7.add (g.toNat*4)))) (Qv h9 i0 i1 i2 i3 i4 i5 i6)) (fun _ C=>s [I (B7 (g+1))] C/\y [I (B7 (g+1))] C<y [I g] k) B))
 (∃ (t:LP) (z:LN),t [I 0] k/\
 ∀ i l,t [I i] l->Bd (i<(a:Int)) (∃ i8,Ax d i8 i a <| ∃ i9 j0 o0,Hd l (i8.add (i.toNat*1)) i9 j0 o0 <| ∃ j1,Ax d j1 i a <| ∃ j2 j3 o1,Hd l (j1.add (i.toNat*1)) j2 j3 o1 <| ∃ j4,Ax j2 j4 b j3 <| ∃ j5 j6 j7 j8 j9 k0 k1 k2,Lq l (j4.add (b.toNat*4)) j5 j6 j7 j8 j9 k0 k1 k2 <| ∃ k3,Ax d k3 i a <| ∃ k4 k5 o2,Hd l (k3.add (i.toNat*1)) k4 k5 o2 <| ∃ k6,Ax k4 k6 f k5 <| ∃ k7 k8 k9 l0 l1 l2 l3 l4,Lq l (k6.add (f.toNat*4)) k7 k8 k9 l0 l1 l2 l3 l4<|aC P Qk #[Qv j5 j6 j7 j8 j9 k0 k1 k2,Qv k7 k8 k9 l0 l1 l2 l3 l4] l (fun n0 D=>∃ l5 l6 l7 l8 l9 m0 m1 m2,n0=Qv l5 l6 l7 l8 l9 m0 m1 m2/\l.le D/\∃ m3,Ax i9 m3 b j0<|wpH P (aE 81 (.pointer (some (m3.add (b.toNat*4)))) (Qv l5 l6 l7 l8 l9 m0 m1 m2)) (fun _ E=>t [I (B7 (i+1))] E/\z [I (B7 (i+1))] E<z [I i] l) D))
 (K (.tuple #[]) l)))
 (r [I (B7 (f+1))] u/\x [I (B7 (f+1))] u<x [I f] n)))
 (K (.tuple #[]) n))
def B5x a b c d(hvc:C0i prog a b c d h K):aC prog A1g #[Sl a b c,I d] h K:=
 fnk func173 { loops:=[(2,⟨[5],[],[I 0],⟨([5,6]++Lrg 13 59),[]⟩⟩),(7,⟨[6],[],[I 0],⟨([6]++Lrg 41 31),[]⟩⟩),(11,⟨[7],[],[I 0],⟨([7,8,9]++Lrg 74 66),[]⟩⟩),(15,⟨[8],[],[I 0],⟨([8]++Lrg 88 26),[]⟩⟩),(19,⟨[9],[],[I 0],⟨([9]++Lrg 114 26),[]⟩⟩)] } [] [] hvc
def A94(P:aG)(j:Int)(k:Int)(l:OA)(m n:Nat)(h:aH)(K:VP):Prop:=
 aC P In #[Mv j k l m n] h (fun o i=>∃ (b:OA) (c d:Nat) (a:Int),o= .tuple #[Sl b c d,I a]/\Br (a != (0:Int)) (K (.tuple #[I 0,I 0,I 0,I a]) i)
 (aC P A1e #[Sl b c d] i (fun p q=>∃ (e:Int) (f:Int) (g:Int),p= .tuple #[I e,I f,I g]/\K (.tuple #[I e,I f,I g,I 0]) q)))
def A7b a b c d e(hvc:A94 prog a b c d e h K):aC prog Jy #[Mv a b c d e] h K:=
 fnk func25 an0 [1] [] hvc
def C0h(P:aG)(L:Int)(o9:Int)(p0:OA)(p1 p2:Nat)(a:Int)(h:aH)(K:VP):Prop:=
 aC P In #[Mv L o9 p0 p1 p2] h (fun p4 A=>∃ (x:OA) (y p3:Nat) (M:Int),p4= .tuple #[Sl x y p3,I M]/\Br (M != (0:Int)) (K (.tuple #[Mv (0:Int) (0:Int) none 0 0,I M]) A)
 (Bd (a<(1:Int)) (K (.tuple #[Mv (0:Int) (0:Int) none 0 0,I 3]) A)
 (Bd (a>=L) (K (.tuple #[Mv (0:Int) (0:Int) none 0 0,I 3]) A)
 (∃ (r:LP) (n:LN),r [N0,N0,N0,I 0] A/\
 ∀ k l m f g i d c e b j,r [.slice k l m,.slice f g i,.slice d c e,I b] j->Bd (b<L) (Bd (b<a) (∃ h1,Ax x h1 b y <| ∃ C t5 s,Hd j (h1.add (b.toNat*1)) C t5 s<|(0<=a/\a<=(s:Int))/\∃ D,Ax x D b y<|(∃ E v t,Hd j (D.add (b.toNat*1)) E v t<|(0<=a/\a<=(v:Int))/\(wpH P (aD 56 1 #[(0,.slice (H9 C s 0 4) ((a.toNat)-0) (s-0))]) (fun p5 B=>∃ V W X,p5=Sl V W X/\j.le B/\(wpH P (aF #[56,56] 56 #[Sl k l m,Sl V W X]) (fun p6 f2=>∃ Z a0 a1,p6=Sl Z a0 a1/\wpH P (aD 56 1 #[(0,.slice (H9 E t (a.toNat) 4) (v-(a.toNat)) (t-(a.toNat)))]) (fun p7 f3=>∃ h2 h3 h4,p7=Sl h2 h3 h4/\f2.le f3/\wpH P (aF #[56,56] 56 #[Sl f g i,Sl h2 h3 h4]) (fun p8 f4=>∃ a2 a3 a4,p8=Sl a2 a3 a4/\r [.slice Z a0 a1,.slice a2 a3 a4,.slice d c e,I (B7 (b+1))] f4/\n [.slice Z a0 a1,.slice a2 a3 a4,.slice d c e,I (B7 (b+1))] f4<n [.slice k l m,.slice f g i,.slice d c e,I b] j) f3) f2) B)/\(wpH P (aD 56 1 #[(0,.slice (H9 E t (a.toNat) 4) (v-(a.toNat)) (t-(a.toNat)))]) (fun p9 f5=>∃ h5 h6 h7,p9=Sl h5 h6 h7/\B.le f5/\wpH P (aF #[56,56] 56 #[Sl k l m,Sl V W X]) (fun q0 q1=>∃ a5 a6 a7,q0=Sl a5 a6 a7/\wpH P (aF #[56,56] 56 #[Sl f g i,Sl h5 h6 h7]) (fun q2 f6=>∃ a8 a9 b0,q2=Sl a8 a9 b0/\r [.slice a5 a6 a7,.slice a8 a9 b0,.slice d c e,I (B7 (b+1))] f6/\n [.slice a5 a6 a7,.slice a8 a9 b0,.slice d c e,I (B7 (b+1))] f6<n [.slice k l m,.slice f g i,.slice d c e,I b] j) q1) f5) B)) j)/\(wpH P (aD 56 1 #[(0,.slice (H9 E t (a.toNat) 4) (v-(a.toNat)) (t-(a.toNat)))]) (fun q3 S=>∃ h8 h9 i0,q3=Sl h8 h9 i0/\j.le S/\wpH P (aD 56 1 #[(0,.slice (H9 C s 0 4) ((a.toNat)-0) (s-0))]) (fun q4 f7=>∃ i1 i2 i3,q4=Sl i1 i2 i3/\S.le f7/\wpH P (aF #[56,56] 56 #[Sl k l m,Sl i1 i2 i3]) (fun q5 q6=>∃ b1 b2 b3,q5=Sl b1 b2 b3/\wpH P (aF #[56,56] 56 #[Sl f g i,Sl h8 h9 i0]) (fun q7 f8=>∃ b4 b5 b6,q7=Sl b4 b5 b6/\r [.slice b1 b2 b3,.slice b4 b5 b6,.slice d c e,I (B7 (b+1))] f8/\n [.slice b1 b2 b3,.slice b4 b5 b6,.slice d c e,I (B7 (b+1))] f8<n [.slice k l m,.slice f g i,.slice d c e,I b] j) q6) f7) S) j))/\(wpH P (aD 56 1 #[(0,.slice (H9 C s 0 4) ((a.toNat)-0) (s-0))]) (fun q8 u=>∃ F G H,q8=Sl F G H/\j.le u/\(∃ b7 z w,Hd u (D.add (b.toNat*1)) b7 z w<|(0<=a/\a<=(z:Int))/\(wpH P (aF #[56,56] 56 #[Sl k l m,Sl F G H]) (fun q9 f9=>∃ b8 b9 c0,q9=Sl b8 b9 c0/\wpH P (aD 56 1 #[(0,.slice (H9 b7 w (a.toNat) 4) (z-(a.toNat)) (w-(a.toNat)))]) (fun r0 g0=>∃ i4 i5 i6,r0=Sl i4 i5 i6/\f9.le g0/\wpH P (aF #[56,56] 56 #[Sl f g i,Sl i4 i5 i6]) (fun r1 g1=>∃ c1 c2 c3,r1=Sl c1 c2 c3/\r [.slice b8 b9 c0,.slice c1 c2 c3,.slice d c e,I (B7 (b+1))] g1/\n [.slice b8 b9 c0,.slice c1 c2 c3,.slice d c e,I (B7 (b+1))] g1<n [.slice k l m,.slice f g i,.slice d c e,I b] j) g0) f9) u)/\(wpH P (aD 56 1 #[(0,.slice (H9 b7 w (a.toNat) 4) (z-(a.toNat)) (w-(a.toNat)))]) (fun r2 g2=>∃ i7 i8 i9,r2=Sl i7 i8 i9/\u.le g2/\wpH P (aF #[56,56] 56 #[Sl k l m,Sl F G H]) (fun r3 r4=>∃ c4 c5 c6,r3=Sl c4 c5 c6/\wpH P (aF #[56,56] 56 #[Sl f g i,Sl i7 i8 i9]) (fun r5 g3=>∃ c7 c8 c9,r5=Sl c7 c8 c9/\r [.slice c4 c5 c6,.slice c7 c8 c9,.slice d c e,I (B7 (b+1))] g3/\n [.slice c4 c5 c6,.slice c7 c8 c9,.slice d c e,I (B7 (b+1))] g3<n [.slice k l m,.slice f g i,.slice d c e,I b] j) r4) g2) u))/\(wpH P (aF #[56,56] 56 #[Sl k l m,Sl F G H]) (fun r6 T=>∃ d0 d1 d2,r6=Sl d0 d1 d2/\∃ j0 N d3,Hd T (D.add (b.toNat*1)) j0 N d3<|(0<=a/\a<=(N:Int))/\wpH P (aD 56 1 #[(0,.slice (H9 j0 d3 (a.toNat) 4) (N-(a.toNat)) (d3-(a.toNat)))]) (fun r7 g4=>∃ j1 j2 j3,r7=Sl j1 j2 j3/\T.le g4/\wpH P (aF #[56,56] 56 #[Sl f g i,Sl j1 j2 j3]) (fun r8 g5=>∃ d4 d5 d6,r8=Sl d4 d5 d6/\r [.slice d0 d1 d2,.slice d4 d5 d6,.slice d c e,I (B7 (b+1))] g5/\n [.slice d0 d1 d2,.slice d4 d5 d6,.slice d c e,I (B7 (b+1))] g5<n [.slice k l m,.slice f g i,.slice d c e,I b] j) g4) T) u)) j))
 (wpH P (aD 75 0 #[]) (fun r9 g6=>∃ j4 j5 j6,r9=Sl j4 j5 j6/\∃ j7,Ax x j7 b y <| ∃ j8 O d7,Hd g6 (j7.add (b.toNat*1)) j8 O d7<|(0<=a/\a<=(O:Int))/\wpH P (aF #[75,75] 75 #[Sl j4 j5 j6,.slice (H9 j8 d7 (a.toNat) 4) (O-(a.toNat)) (d7-(a.toNat))]) (fun s0 s1=>∃ j9 k0 k1,s0=Sl j9 k0 k1/\wpH P (aD 56 1 #[(0,Sl j9 k0 k1)]) (fun s2 s3=>∃ k2 k3 k4,s2=Sl k2 k3 k4/\wpH P (aF #[56,56] 56 #[Sl d c e,Sl k2 k3 k4]) (fun s4 g7=>∃ d8 d9 e0,s4=Sl d8 d9 e0/\r [.slice k l m,.slice f g i,.slice d8 d9 e0,I (B7 (b+1))] g7/\n [.slice k l m,.slice f g i,.slice d8 d9 e0,I (B7 (b+1))] g7<n [.slice k l m,.slice f g i,.slice d c e,I b] j) s3) s1) g6) j))
 (aC P Vk #[Sl k l m] j (fun s5 g8=>∃ (e1:OA) (e2 e3:Nat) (e4:Bool),s5= .tuple #[Sl e1 e2 e3,.bool e4]/\Br (!e4) (K (.tuple #[Mv (0:Int) (0:Int) none 0 0,I 7]) g8)
 (aC P Vj #[Sl f g i] g8 (fun s6 s7=>∃ k5 k6 k7,s6=Sl k5 k6 k7/\aC P Jz #[Sl e1 e2 e3,Sl f g i] s7 (fun s8 s9=>∃ k8 k9 l0,s8=Sl k8 k9 l0/\aC P Jz #[Sl k5 k6 k7,Sl k8 k9 l0] s9 (fun t0 t1=>∃ l1 l2 t6,t0=Sl l1 l2 t6/\∃ (Q:LP) (e5:LN),Q [I 0] t1/\
 ∀ o J,Q [I o] J->Bd (o<(c:Int)) (∃ (R:LP) (e6:LN),R [I 0] J/\
 ∀ p q,R [I p] q->Bd (p<(c:Int)) (∃ l3,Ax d l3 o c <| ∃ l4 l5 t7,Hd q (l3.add (o.toNat*1)) l4 l5 t7 <| ∃ l6,Ax d l6 o c <| ∃ l7 l8 t8,Hd q (l6.add (o.toNat*1)) l7 l8 t8 <| ∃ l9,Ax l7 l9 p l8 <| ∃ m0 m1 m2 m3 m4 m5 m6 m7,Lq q (l9.add (p.toNat*4)) m0 m1 m2 m3 m4 m5 m6 m7 <| ∃ m8,Ax l1 m8 o l2 <| ∃ m9 n0 t9,Hd q (m8.add (o.toNat*1)) m9 n0 t9 <| ∃ n1,Ax m9 n1 p n0 <| ∃ n2 n3 n4 n5 n6 n7 n8 n9,Lq q (n1.add (p.toNat*4)) n2 n3 n4 n5 n6 n7 n8 n9<|aC P Lr #[Qv m0 m1 m2 m3 m4 m5 m6 m7,Qv n2 n3 n4 n5 n6 n7 n8 n9] q (fun t2 g9=>∃ o0 o1 o2 o3 o4 o5 o6 o7,t2=Qv o0 o1 o2 o3 o4 o5 o6 o7/\q.le g9/\∃ o8,Ax l4 o8 p l5<|wpH P (aE 81 (.pointer (some (o8.add (p.toNat*4)))) (Qv o0 o1 o2 o3 o4 o5 o6 o7)) (fun _ h0=>R [I (B7 (p+1))] h0/\e6 [I (B7 (p+1))] h0<e6 [I p] q) g9))
 (Q [I (B7 (o+1))] q/\e5 [I (B7 (o+1))] q<e5 [I o] J))
 (aC P Lw #[Sl d c e] J (fun t3 t4=>∃ (e7:Int) (e8:Int) (e9:OA) (f0 f1:Nat),t3=Mv e7 e8 e9 f0 f1/\K (.tuple #[Mv e7 e8 e9 f0 f1,I 0]) t4))))))))))))
def B5w a b c d e f(hvc:C0h prog a b c d e f h K):aC prog A1f #[Mv a b c d e,I f] h K:=
 fnk func27 ⟨[(8,⟨[8,9,10,11],[],[N0,N0,N0,I 0],⟨([8,9,10,11]++Lrg 35 38),[]⟩⟩),(18,⟨[15],[],[I 0],⟨([15,16]++Lrg 87 33),[]⟩⟩),(21,⟨[16],[],[I 0],⟨([16]++Lrg 93 27),[]⟩⟩)],[],[(11,([0,1,2,3,4,5,6,9,10,11,12,14,13,15,7,8,16,17,18,19],[]))],[],[(11,[(7,[16]),(8,[16]),(13,[7,8])])]⟩ [2,4] [1000000000] hvc
def C06(P:aG) (h:aH)(K:VP):Prop:=
 wpH P (aD 38 4 #[(0,.string ({ data:=#[52] }:ByteArray)),(1,.string ({ data:=#[50] }:ByteArray)),(2,.string ({ data:=#[50] }:ByteArray)),(3,.string ({ data:=#[49] }:ByteArray))]) (fun O Q=>∃ q r s,O=Sl q r s/\aC P Ez #[Mv (2:Int) (2:Int) q r s] Q (fun R S=>∃ (C:Int) (D:Int) (c:OA) (d e:Nat) (f:OA) (g i:Nat) (j:Bool) (k:Int),R= .tuple #[.agg #[I C,I D,Sl c d e,Sl f g i],.bool j,I k]/\wpH P (aD 38 4 #[(0,.string ({ data:=#[48] }:ByteArray)),(1,.string ({ data:=#[49] }:ByteArray)),(2,.string ({ data:=#[49] }:ByteArray)),(3,.string ({ data:=#[48] }:ByteArray))]) (fun T V=>∃ t u v,T=Sl t u v/\aC P Ez #[Mv (2:Int) (2:Int) t u v] V (fun W a=>∃ (E:Int) (F:Int) (G:OA) (H J:Nat) (L:OA) (M N:Nat) (l:Bool) (m:Int),W= .tuple #[.agg #[I E,I F,Sl G H J,Sl L M N],.bool l,I m]/\Br j (Br (k==(0:Int)) (wpH P (aD 38 2 #[(0,.string ({ data:=#[52] }:ByteArray)),(1,.string ({ data:=#[48] }:ByteArray))]) (fun X Z=>∃ w x y,X=Sl w x y/\aC P Co #[Sl f g i,Sl w x y] Z (fun a0 p=>∃ (n:Bool),a0= .bool n/\Br n (wpH P (aD 38 4 #[(0,.string ({ data:=#[49] }:ByteArray)),(1,.string ({ data:=#[48] }:ByteArray)),(2,.string ({ data:=#[49,47,50] }:ByteArray)),(3,.string ({ data:=#[49] }:ByteArray))]) (fun a1 a2=>∃ z A B,a1=Sl z A B/\aC P Co #[Sl c d e,Sl z A B] a2 (fun a3 b=>∃ (o:Bool),a3= .bool o/\Br o (Br (!l) (K (.bool (m==(0:Int))) b)
 (K (.bool false) b))
 (K (.bool false) b))) p)
 (K (.bool false) p))) a)
 (K (.bool false) a))
 (K (.bool false) a))) S)) h
def B5b (hvc:C06 prog  h K):aC prog Oe #[] h K:=
 fnk func20 an0 [1,4] [] hvc
def Zs(P:aG)(f9:OA)(F i7:Nat)(g0:Int)(g1:OA)(G i8:Nat)(h:aH)(K:VP):Prop:=
 aC P B3q #[I g0,I 4] h (fun g2 g3=>∃ b,g2=I b/\∃ (p:LP) (q:LN),p [N0,I 0] g3/\
 ∀ i j f d g,p [.slice i j f,I d] g->Bd (d<(B7 ((B7 (b+1))*(B7 (b+1))))) (Bd (d<(F:Int)) (∃ a5,Ax f9 a5 d F <| ∃ (H:ByteArray),g.cell? (a5.add (d.toNat*1))=some (.string H)/\aC P A8b #[.string H] g (fun g4 g5=>∃ a6 a7 a8 a9 b0 b1 b2 b3,g4=Qv a6 a7 a8 a9 b0 b1 b2 b3/\wpH P (aD 75 1 #[(0,Qv a6 a7 a8 a9 b0 b1 b2 b3)]) (fun g6 g7=>∃ b4 b5 b6,g6=Sl b4 b5 b6/\wpH P (aF #[75,75] 75 #[Sl i j f,Sl b4 b5 b6]) (fun g8 a0=>∃ v w x,g8=Sl v w x/\p [.slice v w x,I (B7 (d+1))] a0/\q [.slice v w x,I (B7 (d+1))] a0<q [.slice i j f,I d] g) g7) g5))
 (wpH P (aD 75 1 #[(0,Qv false none 0 0 false none 0 0)]) (fun g9 h0=>∃ b7 b8 b9,g9=Sl b7 b8 b9/\wpH P (aF #[75,75] 75 #[Sl i j f,Sl b7 b8 b9]) (fun h1 a1=>∃ y z A,h1=Sl y z A/\p [.slice y z A,I (B7 (d+1))] a1/\q [.slice y z A,I (B7 (d+1))] a1<q [.slice i j f,I d] g) h0) g))
 (∃ (s:LP) (J:LN),s [N0,I 0] g/\
 ∀ k l m c r,s [.slice k l m,I c] r->Bd (c<(B7 (b+1))) ((0<=B7 ((B7 (c+1))*(B7 (b+1)))/\B7 ((B7 (c+1))*(B7 (b+1)))<=(f:Int))/\(0<=B7 (c*(B7 (b+1)))/\B7 (c*(B7 (b+1)))<=(((B7 ((B7 (c+1))*(B7 (b+1)))).toNat:Nat):Int))/\wpH P (aD 56 1 #[(0,.slice (H9 i f ((B7 (c*(B7 (b+1)))).toNat) 4) (((B7 ((B7 (c+1))*(B7 (b+1)))).toNat)-((B7 (c*(B7 (b+1)))).toNat)) (f-((B7 (c*(B7 (b+1)))).toNat)))]) (fun h2 h3=>∃ c0 c1 c2,h2=Sl c0 c1 c2/\wpH P (aF #[56,56] 56 #[Sl k l m,Sl c0 c1 c2]) (fun h4 a2=>∃ B C D,h4=Sl B C D/\s [.slice B C D,I (B7 (c+1))] a2/\J [.slice B C D,I (B7 (c+1))] a2<J [.slice k l m,I c] r) h3) r)
 (aC P Vj #[Sl k l m] r (fun h5 h6=>∃ c3 c4 c5,h5=Sl c3 c4 c5/\aC P Jz #[Sl c3 c4 c5,Sl k l m] h6 (fun h7 h8=>∃ n o E,h7=Sl n o E/\∃ (t:LP) (L:LN),t [I 0] h8/\
 ∀ a e,t [I a] e->Bd (a<(B7 (b+1))) (Bd (a<(G:Int)) (∃ c6,Ax n c6 a o <| ∃ c7 c8 i5,Hd e (c6.add (a.toNat*1)) c7 c8 i5 <| ∃ c9,Ax n c9 a o <| ∃ d0 d1 i6,Hd e (c9.add (a.toNat*1)) d0 d1 i6 <| ∃ d2,Ax d0 d2 a d1 <| ∃ d3 d4 d5 d6 d7 d8 d9 e0,Lq e (d2.add (a.toNat*4)) d3 d4 d5 d6 d7 d8 d9 e0 <| ∃ e1,Ax g1 e1 a G <| ∃ (M:ByteArray),e.cell? (e1.add (a.toNat*1))=some (.string M)/\aC P A8b #[.string M] e (fun h9 u=>∃ e2 e3 e4 e5 e6 e7 e8 e9,h9=Qv e2 e3 e4 e5 e6 e7 e8 e9/\e.le u/\aC P Lr #[Qv d3 d4 d5 d6 d7 d8 d9 e0,Qv e2 e3 e4 e5 e6 e7 e8 e9] u (fun i0 a3=>∃ f0 f1 f2 f3 f4 f5 f6 f7,i0=Qv f0 f1 f2 f3 f4 f5 f6 f7/\u.le a3/\∃ f8,Ax c7 f8 a c8<|wpH P (aE 81 (.pointer (some (f8.add (a.toNat*4)))) (Qv f0 f1 f2 f3 f4 f5 f6 f7)) (fun _ a4=>t [I (B7 (a+1))] a4/\L [I (B7 (a+1))] a4<L [I a] e) a3)))
 (aC P Lw #[Sl n o E] e (fun i1 i2=>∃ (N:Int) (O:Int) (Q:OA) (R S:Nat),i1=Mv N O Q R S/\K (Mv N O Q R S) i2)))
 (aC P Lw #[Sl n o E] e (fun i3 i4=>∃ (T:Int) (V:Int) (W:OA) (X Z:Nat),i3=Mv T V W X Z/\K (Mv T V W X Z) i4)))))))
def A29 a b c d e f g(hvc:Zs prog a b c d e f g h K):aC prog Im #[Sl a b c,I d,Sl e f g] h K:=
 fnk func21 { loops:=[(4,⟨[7,8],[],[N0,I 0],⟨([7,8,9]++Lrg 17 21),[9]⟩⟩),(12,⟨[10,11],[],[N0,I 0],⟨([10,11]++Lrg 38 17),[]⟩⟩),(17,⟨[13],[],[I 0],⟨([13]++Lrg 59 30),[]⟩⟩)] } [6,9] [] hvc
def C0d(P:aG)(f:OA)(a g:Nat)(i:OA)(b j:Nat)(h:aH)(K:VP):Prop:=
 Bd ((a:Int)<=(20:Int)) (Bd ((b:Int)<=(8:Int)) (aC P Tk #[I 8,Sl f a g] h (fun k e=>∃ (c:Bool),k= .bool c/\Br c (aC P Tk #[I 8,Sl i b j] e (fun l m=>∃ (d:Bool),l= .bool d/\K (.bool d) m))
 (K (.bool false) e)))
 (K (.bool false) h))
 (K (.bool false) h)
def B5r a b c d e f(hvc:C0d prog a b c d e f h K):aC prog A1d #[Sl a b c,Sl d e f] h K:=
 fnk func19 an0 [] [] hvc
def C4q(P:aG)(d:Int)(e:Int)(f:OA)(g i:Nat)(j:OA)(k l:Nat)(m:Int)(n:Int)(o:OA)(p q:Nat)(r:OA)(s t:Nat)(h:aH)(K:VP):Prop:=
 aC P Gm #[Mv d e f g i,Mv m n o p q] h (fun u c=>∃ (a:Bool),u= .bool a/\Br a (aC P Co #[Sl j k l,Sl r s t] c (fun v w=>∃ (b:Bool),v= .bool b/\K (.bool b) w))
 (K (.bool false) c))
def B8q a b c d e f g i j k l m n o p q(hvc:C4q prog a b c d e f g i j k l m n o p q h K):aC prog A6l #[.agg #[I a,I b,Sl c d e,Sl f g i],.agg #[I j,I k,Sl l m n,Sl o p q]] h K:=
 fnk func28 an0 [2,3] [] hvc
def Zt(P:aG)(i:OA)(j k:Nat)(b4:Int)(l:OA)(m n:Nat)(o:Int)(h:aH)(K:VP):Prop:=
 aC P A1d #[Sl i j k,Sl l m n] h (fun b5 b3=>∃ (p:Bool),b5= .bool p/\Br (!p) (aC P Oe #[] b3 (fun b6 b7=>∃ (q:Bool),b6= .bool q/\K (.bool q) b7))
 (aC P Im #[Sl i j k,I b4,Sl l m n] b3 (fun b8 b9=>∃ (b:Int) (c:Int) (d:OA) (e f:Nat),b8=Mv b c d e f/\aC P Ez #[Mv b c d e f] b9 (fun c0 c1=>∃ (r:Int) (s:Int) (t:OA) (u v:Nat) (w:OA) (x y:Nat) (z:Bool) (A:Int),c0= .tuple #[.agg #[I r,I s,Sl t u v,Sl w x y],.bool z,I A]/\aC P Vh #[Mv b c d e f] c1 (fun c2 c3=>∃ (B:Int) (C:Int) (D:OA) (E F:Nat) (G:OA) (H J:Nat) (L:Bool) (M:Int),c2= .tuple #[.agg #[I B,I C,Sl D E F,Sl G H J],.bool L,I M]/\aC P Kc #[Mv b c d e f] c3 (fun c4 c5=>∃ (N:Int) (O:Int) (Q:Int) (R:Int),c4= .tuple #[I N,I O,I Q,I R]/\aC P Jy #[Mv b c d e f] c5 (fun c6 c7=>∃ (S:Int) (T:Int) (V:Int) (W:Int),c6= .tuple #[I S,I T,I V,I W]/\aC P A1h #[Mv b c d e f,I o] c7 (fun c8 c9=>∃ (X:Int) (Z:Int) (a0:OA) (a1 a2:Nat) (a3:Int),c8= .tuple #[Mv X Z a0 a1 a2,I a3]/\aC P A1f #[Mv b c d e f,I o] c9 (fun d0 d1=>∃ (a4:Int) (a5:Int) (a6:OA) (a7 a8:Nat) (a9:Int),d0= .tuple #[Mv a4 a5 a6 a7 a8,I a9]/\aC P A6l #[.agg #[I r,I s,Sl t u v,Sl w x y],.agg #[I B,I C,Sl D E F,Sl G H J]] d1 (fun d2 a=>∃ (b0:Bool),d2= .bool b0/\Br b0 (Br (z==L) (Br (A==M) (Br (N==S) (Br (O==T) (Br (Q==V) (Br (R==W) (aC P Gm #[Mv X Z a0 a1 a2,Mv a4 a5 a6 a7 a8] a (fun d3 g=>∃ (b1:Bool),d3= .bool b1/\Br b1 (Br (a3==a9) (aC P Oe #[] g (fun d4 d5=>∃ (b2:Bool),d4= .bool b2/\K (.bool b2) d5))
 (K (.bool false) g))
 (K (.bool false) g)))
 (K (.bool false) a))
 (K (.bool false) a))
 (K (.bool false) a))
 (K (.bool false) a))
 (K (.bool false) a))
 (K (.bool false) a))
 (K (.bool false) a)))))))))))
def A2a a b c d e f g i(hvc:Zt prog a b c d e f g i h K):aC prog Rx #[Sl a b c,I d,Sl e f g,I i] h K:=
 fnk func4 an0 [9,10,13,24,26] [] hvc
