/- A part. -/
import Derived.Test.YtbgkfnjmcjfokaaGreatDoorG09
open Go.Proofs.Tryz
set_option linter.all false
open _root_.Go.Builtin renaming append_->aO,copy_->aR
open _root_.ByteArray renaming size->aN
open _root_.Go.Extern.MathBitsCarry renaming m64->aP,three->aT,pair->aU
open _root_.Go.Instr renaming storeAt->aH,buildSlice->aK,makeSlice->aQ
open Int renaming tdiv->aC,tmod->aF,fdiv->aJ
open _root_.Go renaming Program->aI
open _root_.Go.Proofs.YtbgkfnjmcjfokaaGreatDoor renaming FCall->aE,Heap->aL
namespace Go.Proofs.YtbgkfnjmcjfokaaGreatDoor
open Go
section
set_option maxRecDepth 100000
variable {h:aL} {K:VP}
def Q6:SliceT prog 74 194 (U 0) 1 8:=⟨by kernel_rfl,by kernel_rfl,rfl,dc⟩
def F8:prog.cellsOf 194=1/\(prog.info? 194).isSome=true:=⟨by kernel_rfl,by kernel_rfl⟩
def A4j:SliceT prog 253 74 (N0) 1 24:=⟨by kernel_rfl,by kernel_rfl,rfl,dc⟩
def Ej(P:aI)(K:VP)(s:OA)(b t:Nat)(u:OA)(g:Nat)(e:OA)(i d:Nat)(v:aL):Prop:=
 ∃ (f:LP) (j:LN),f [I 0] v/\
 ∀ a c,f [I a] c->Bd (a<(g:Int)) (∃ l,Ax u l a g <| ∃ m,c.cell? (l.add (a.toNat*1))=some (U m)/\(0<=B9 (a+(b:Int))/\B9 (a+(b:Int))<=(d:Int))/\(0<=a/\a<=(((B9 (a+(b:Int))).toNat:Nat):Int))/\aE P 231 #[.slice (U3 e d (a.toNat) 1) (((B9 (a+(b:Int))).toNat)-(a.toNat)) (d-(a.toNat)),Sl s b t,U m] c (fun w x=>∃ n,w=U n/\∃ o,Ax e o (B9 (a+(b:Int))) i<|wpH P (aH 194 (Pt (o.add ((B9 (a+(b:Int))).toNat*1))) (U n)) (fun _ k=>f [I (B9 (a+1))] k/\j [I (B9 (a+1))] k<j [I a] c) x))
 (aE P 192 #[Sl e i d] c (fun y z=>∃ p q r,y=Sl p q r/\K (Sl p q r) z))
def Dh(P:aI)(D:OA)(m E:Nat)(F:OA)(n G:Nat)(h:aL)(K:VP):Prop:=
 ∃ (o:LP),(Bd ((m:Int)<(n:Int)) (o [.slice F n G,.slice D m E] h)
 (o [.slice D m E,.slice F n G] h))/\
 ∀ f a c g b d k,o [.slice f a c,.slice g b d] k->Br ((b:Int)==0) (K (Sl none 0 0) k)
 (∃ (p:LP),(Br ((b:Int)==1) (∃ L,Ax g L (0:Int) b <| ∃ M,k.cell? (L.add (((0:Int)).toNat*1))=some (U M)/\p [.bool (M==1)] k)
 (p [.bool false] k))/\
 ∀ N j,p [.bool N] j->Br N (K (Sl f a c) j)
 (Bd ((b:Int)<40) (wpH P (aQ 74 (I (B9 ((a:Int)+(b:Int)))) (I (B9 ((a:Int)+(b:Int))))) (fun b6 b7=>∃ O Q R,b6=Sl O Q R/\Ej P K f a c g b O Q R b7) j)
 (Bd ((b:Int)<=(B9 (aC (B9 ((a:Int)+1)) (2:Int)))) (aE P 232 #[Sl f a c,Sl g b d] j (fun b8 b9=>∃ S T V,b8=Sl S T V/\K (Sl S T V) b9))
 ((0<=B9 (aC (B9 ((a:Int)+1)) (2:Int))/\B9 (aC (B9 ((a:Int)+1)) (2:Int))<=(c:Int))/\(0<=B9 (aC (B9 ((a:Int)+1)) (2:Int))/\B9 (aC (B9 ((a:Int)+1)) (2:Int))<=(a:Int))/\aE P 192 #[.slice (U3 f c 0 1) (((B9 (aC (B9 ((a:Int)+1)) (2:Int))).toNat)-0) (c-0)] j (fun c0 q=>∃ r s t,c0=Sl r s t/\j.le q/\(0<=B9 (aC (B9 ((a:Int)+1)) (2:Int))/\B9 (aC (B9 ((a:Int)+1)) (2:Int))<=(d:Int))/\(0<=B9 (aC (B9 ((a:Int)+1)) (2:Int))/\B9 (aC (B9 ((a:Int)+1)) (2:Int))<=(b:Int))/\aE P 192 #[.slice (U3 g d 0 1) (((B9 (aC (B9 ((a:Int)+1)) (2:Int))).toNat)-0) (d-0)] q (fun c1 H=>∃ u v w,c1=Sl u v w/\q.le H/\aE P 166 #[Sl r s t,Sl u v w] H (fun c2 c3=>∃ x y z,c2=Sl x y z/\aE P 166 #[.slice (U3 f c ((B9 (aC (B9 ((a:Int)+1)) (2:Int))).toNat) 1) (a-((B9 (aC (B9 ((a:Int)+1)) (2:Int))).toNat)) (c-((B9 (aC (B9 ((a:Int)+1)) (2:Int))).toNat)),.slice (U3 g d ((B9 (aC (B9 ((a:Int)+1)) (2:Int))).toNat) 1) (b-((B9 (aC (B9 ((a:Int)+1)) (2:Int))).toNat)) (d-((B9 (aC (B9 ((a:Int)+1)) (2:Int))).toNat))] c3 (fun c4 c5=>∃ A B C,c4=Sl A B C/\aE P 233 #[Sl r s t,.slice (U3 f c ((B9 (aC (B9 ((a:Int)+1)) (2:Int))).toNat) 1) (a-((B9 (aC (B9 ((a:Int)+1)) (2:Int))).toNat)) (c-((B9 (aC (B9 ((a:Int)+1)) (2:Int))).toNat))] c5 (fun c6 c7=>∃ W X a0,c6=Sl W X a0/\aE P 233 #[Sl u v w,.slice (U3 g d ((B9 (aC (B9 ((a:Int)+1)) (2:Int))).toNat) 1) (b-((B9 (aC (B9 ((a:Int)+1)) (2:Int))).toNat)) (d-((B9 (aC (B9 ((a:Int)+1)) (2:Int))).toNat))] c7 (fun c8 c9=>∃ a1 a2 a3,c8=Sl a1 a2 a3/\aE P 166 #[Sl W X a0,Sl a1 a2 a3] c9 (fun d0 d1=>∃ a4 a5 a6,d0=Sl a4 a5 a6/\aE P 234 #[Sl a4 a5 a6,Sl x y z] d1 (fun d2 d3=>∃ a7 a8 a9,d2=Sl a7 a8 a9/\aE P 234 #[Sl a7 a8 a9,Sl A B C] d3 (fun d4 d5=>∃ b0 b1 b2,d4=Sl b0 b1 b2/\wpH P (aQ 74 (I (B9 ((a:Int)+(b:Int)))) (I (B9 ((a:Int)+(b:Int))))) (fun d6 d7=>∃ l e i,d6=Sl l e i/\wpH P (aR #[74,74] 3 #[Sl l e i,Sl x y z]) (fun d8 d9=>∃ e6,d8=I e6/\(0<=B9 ((2:Int)*(B9 (aC (B9 ((a:Int)+1)) (2:Int))))/\B9 ((2:Int)*(B9 (aC (B9 ((a:Int)+1)) (2:Int))))<=(e:Int))/\wpH P (aR #[74,74] 3 #[.slice (U3 l i ((B9 ((2:Int)*(B9 (aC (B9 ((a:Int)+1)) (2:Int))))).toNat) 1) (e-((B9 ((2:Int)*(B9 (aC (B9 ((a:Int)+1)) (2:Int))))).toNat)) (i-((B9 ((2:Int)*(B9 (aC (B9 ((a:Int)+1)) (2:Int))))).toNat)),Sl A B C]) (fun e0 e1=>∃ e7,e0=I e7/\(0<=B9 (aC (B9 ((a:Int)+1)) (2:Int))/\B9 (aC (B9 ((a:Int)+1)) (2:Int))<=(e:Int))/\aE P 235 #[.slice (U3 l i ((B9 (aC (B9 ((a:Int)+1)) (2:Int))).toNat) 1) (e-((B9 (aC (B9 ((a:Int)+1)) (2:Int))).toNat)) (i-((B9 (aC (B9 ((a:Int)+1)) (2:Int))).toNat)),Sl b0 b1 b2] e1 (fun e2 e3=>e2=T0/\aE P 192 #[Sl l e i] e3 (fun e4 e5=>∃ b3 b4 b5,e4=Sl b3 b4 b5/\K (Sl b3 b4 b5) e5))) d9) d7) d5)))))))))))))
def Ei a b c d e f(hvc:Dh prog a b c d e f h K):aE prog 166 #[Sl a b c,Sl d e f] h K:=
 fnq func166 ⟨[(11,⟨[55],[],[I 0],⟨([7,8]++Lrg 55 22),[]⟩⟩)],[(3,⟨[0,1],[],[N0,N0],⟨[0,1,17,18,19,20,21,22,23],[]⟩⟩),(7,⟨[32],[],[.bool false],⟨(Lrg 32 10),[]⟩⟩)],[(18,([0,1,2,4,5,6,3,7,8],[])),(19,([0,1,2,4,5,6,3,7,8],[]))],[],[],(0,0)⟩ [] [231,235] hvc
def Ft(P:aI)(d:Nat)(w:OA)(k:Nat)(e:OA)(f:Nat)(b:Int)(x:Int)(y:LP)(z:aL):Prop:=
 ∃ (i:LP) (l:LN),i [U 0,I 0] z/\
 ∀ g a c,i [U g,I a] c->Bd (a<(k:Int)) (∃ o,Ax w o a k <| ∃ p,c.cell? (o.add (a.toNat*1))=some (U p)/\∃ q,Ax e q (B9 (b+a)) f <| ∃ r,c.cell? (q.add ((B9 (b+a)).toNat*1))=some (U r)/\ECall P 287 #[U r,U p,U g] c (fun A B=>∃ (m:Int) (j:Int),A= .tuple #[U m,U j]/\∃ s,Ax e s (B9 (b+a)) f<|wpH P (aH 194 (Pt (s.add ((B9 (b+a)).toNat*1))) (U m)) (fun _ n=>i [U j,I (B9 (a+1))] n/\l [U j,I (B9 (a+1))] n<l [U g,I a] c) B))
 (∃ t,Ax e t (B9 (b+(d:Int))) f <| ∃ u,c.cell? (t.add ((B9 (b+(d:Int))).toNat*1))=some (U u)/\∃ v,Ax e v (B9 (b+(d:Int))) f<|wpH P (aH 194 (Pt (v.add ((B9 (b+(d:Int))).toNat*1))) (U (C6 (u+g)))) (fun _ C=>y [U (C6 (x-1))] C) c)
def Fu(P:aI)(b:Nat)(K:VP)(L:Int)(g:OA)(i n:Nat)(d:OA)(e c:Nat)(o:OA)(p M:Nat)(N:LP)(q:LN)(a:Int)(j:aL):Prop:=
 Bd (a>=0) ((0<=B9 ((B9 (a+(b:Int)))+1)/\B9 ((B9 (a+(b:Int)))+1)<=(c:Int))/\(0<=a/\a<=(((B9 ((B9 (a+(b:Int)))+1)).toNat:Nat):Int))/\aE P 301 #[.slice (U3 d c (a.toNat) 1) (((B9 ((B9 (a+(b:Int)))+1)).toNat)-(a.toNat)) (c-(a.toNat)),Sl g i n] j (fun O Q=>∃ f,O=U f/\(0<=B9 (a+(b:Int))/\B9 (a+(b:Int))<=(c:Int))/\(0<=a/\a<=(((B9 (a+(b:Int))).toNat:Nat):Int))/\aE P 302 #[.slice (U3 d c (a.toNat) 1) (((B9 (a+(b:Int))).toNat)-(a.toNat)) (c-(a.toNat)),Sl g i n,U f] Q (fun R r=>∃ l,R=U l/\∃ u,Ax d u (B9 (a+(b:Int))) e <| ∃ m,r.cell? (u.add ((B9 (a+(b:Int))).toNat*1))=some (U m)/\∃ v,Ax d v (B9 (a+(b:Int))) e<|wpH P (aH 194 (Pt (v.add ((B9 (a+(b:Int))).toNat*1))) (U (C6 (m-l)))) (fun _ s=>∃ (k:LP),(Bd (m<l) (Ft P b g i d e a f k s)
 (k [U f] s))/\
 ∀ w x,k [U w] x->∃ y,Ax o y a p<|wpH P (aH 194 (Pt (y.add (a.toNat*1))) (U w)) (fun _ t=>N [I (B9 (a-1))] t/\q [I (B9 (a-1))] t<q [I a] j) x) r)))
 (aE P 192 #[Sl o p M] j (fun S T=>∃ z A B,S=Sl z A B/\aE P 192 #[Sl d e c] T (fun V W=>∃ C D E,V=Sl C D E/\aE P 299 #[Sl C D E,U (C6 L)] W (fun X a0=>∃ F G H,X=Sl F G H/\K (.tuple #[Sl z A B,Sl F G H]) a0))))
def Ay(P:aI)(e b:Nat)(K:VP)(f:Int)(g:OA)(i j:Nat)(k:OA)(l m:Nat)(n:OA)(o p:Nat)(q:aL):Prop:=
 ∃ (a:LP) (r:LN),a [I (B9 ((e:Int)-(b:Int)))] q/\
 ∀ c d,a [I c] d->Fu P b K f g i j k l m n o p a r c d
def Ng(P:aI)(d:OA)(b e:Nat)(f:OA)(a l:Nat)(h:aL)(K:VP):Prop:=
 aE P 180 #[Sl d b e,Sl f a l] h (fun H c=>∃ q,H=I q/\Bd (q<0) (K (.tuple #[Sl none 0 0,Sl d b e]) c)
 (Br ((a:Int)==1) (∃ r,Ax f r (0:Int) a <| ∃ s,c.cell? (r.add (((0:Int)).toNat*1))=some (U s)/\aE P 300 #[Sl d b e,U s] c (fun L M=>∃ (m:OA) (n o:Nat) (p:Int),L= .tuple #[Sl m n o,U p]/\aE P 172 #[U p] M (fun N O=>∃ t u v,N=Sl t u v/\K (.tuple #[Sl m n o,Sl t u v]) O)))
 (∃ w,Ax f w (B9 ((a:Int)-1)) a <| ∃ x,c.cell? (w.add ((B9 ((a:Int)-1)).toNat*1))=some (U x)/\aE P 250 #[U x] c (fun Q R=>∃ g,Q=I g/\aE P 173 #[Sl f a l,U (C6 g)] R (fun S T=>∃ y z A,S=Sl y z A/\wpH P (aQ 74 (I (B9 ((b:Int)+1))) (I (B9 ((b:Int)+1)))) (fun V W=>∃ i j k,V=Sl i j k/\aE P 173 #[Sl d b e,U (C6 g)] W (fun X a0=>∃ B C D,X=Sl B C D/\wpH P (aR #[74,74] 3 #[Sl i j k,Sl B C D]) (fun a1 a2=>∃ a5,a1=I a5/\wpH P (aQ 74 (I (B9 ((B9 ((b:Int)-(a:Int)))+1))) (I (B9 ((B9 ((b:Int)-(a:Int)))+1)))) (fun a3 a4=>∃ E F G,a3=Sl E F G/\Ay P b a K g y z A i j k E F G a4) a2) a0)) T)))))
def Qt a b c d e f(hvc:Ng prog a b c d e f h K):aE prog 252 #[Sl a b c,Sl d e f] h K:=
 fnq func252 { loops:=[(13,⟨[13],[],[I 0],⟨([13,14,15,16,17,18,19]++Lrg 72 79),[]⟩⟩),(23,⟨[17,115],[],[U 0,I 0],⟨([17,18,19]++Lrg 115 23),[]⟩⟩)],cuts:=[(28,⟨[14],[],[U 0],⟨([14,17,18,19]++Lrg 108 39),[]⟩⟩)] } [] [302] hvc
def Az(P:aI)(c:Nat)(K:VP)(a:Int)(N:Int)(O:OA)(Q R:Nat)(S:OA)(o T:Nat)(p:OA)(i j:Nat)(V:aL):Prop:=
 ∃ (k:LP) (q:LN),k [N0,I (B9 ((B9 (aC (B9 ((o:Int)-1)) (B9 ((B9 (aC (B9 ((B9 ((c:Int)+a))-1)) a))*a))))*(B9 ((B9 (aC (B9 ((B9 ((c:Int)+a))-1)) a))*a))))] V/\
 ∀ d e f b g,k [.slice d e f,I b] g->Bd (b>=0) (aE P 296 #[Sl S o T,I b] g (fun W X=>∃ v w x,W=Sl v w x/\aE P 295 #[Sl v w x,I (B9 ((B9 (aC (B9 ((B9 ((c:Int)+a))-1)) a))*a))] X (fun a0 a1=>∃ y z A,a0=Sl y z A/\aE P 298 #[Sl d e f,Sl y z A,I (B9 ((B9 (aC (B9 ((B9 ((c:Int)+a))-1)) a))*a))] a1 (fun a2 a3=>∃ B C D,a2=Sl B C D/\aE P 297 #[Sl B C D,Sl O Q R] a3 (fun a4 a5=>∃ (r:OA) (s t:Nat) (l:OA) (m n:Nat),a4= .tuple #[Sl r s t,Sl l m n]/\(0<=b/\b<=(i:Int))/\wpH P (aR #[74,74] 3 #[.slice (U3 p j (b.toNat) 1) (i-(b.toNat)) (j-(b.toNat)),Sl r s t]) (fun a6 u=>∃ b1,a6=I b1/\k [.slice l m n,I (B9 (b-(B9 ((B9 (aC (B9 ((B9 ((c:Int)+a))-1)) a))*a))))] u/\q [.slice l m n,I (B9 (b-(B9 ((B9 (aC (B9 ((B9 ((c:Int)+a))-1)) a))*a))))] u<q [.slice d e f,I b] g) a5)))))
 (aE P 192 #[Sl p i j] g (fun a7 a8=>∃ E F G,a7=Sl E F G/\aE P 299 #[Sl d e f,U (C6 (B9 ((B9 ((64:Int)*(B9 ((B9 ((B9 (aC (B9 ((B9 ((c:Int)+a))-1)) a))*a))-(c:Int)))))+N)))] a8 (fun a9 b0=>∃ H L M,a9=Sl H L M/\K (.tuple #[Sl E F G,Sl H L M]) b0)))
def Ih(P:aI)(t:OA)(u v:Nat)(g:OA)(b w:Nat)(h:aL)(K:VP):Prop:=
 ∃ (f:LP) (i:LN),f [I 1] h/\
 ∀ a c,f [I a] c->Bd (a=0) False
 (Bd ((B9 (aC (B9 ((B9 ((b:Int)+a))-1)) a))>=80) (f [I (B9 (a*(2:Int)))] c/\i [I (B9 (a*(2:Int)))] c<i [I a] c)
 (Bd (a=0) False
 (∃ j,Ax g j (B9 ((b:Int)-1)) b <| ∃ k,c.cell? (j.add ((B9 ((b:Int)-1)).toNat*1))=some (U k)/\aE P 250 #[U k] c (fun x y=>∃ e,x=I e/\aE P 173 #[Sl g b w,U (C6 (B9 ((B9 ((64:Int)*(B9 ((B9 ((B9 (aC (B9 ((B9 ((b:Int)+a))-1)) a))*a))-(b:Int)))))+e)))] y (fun z A=>∃ l m n,z=Sl l m n/\aE P 173 #[Sl t u v,U (C6 (B9 ((B9 ((64:Int)*(B9 ((B9 ((B9 (aC (B9 ((B9 ((b:Int)+a))-1)) a))*a))-(b:Int)))))+e)))] A (fun B C=>∃ o d p,B=Sl o d p/\wpH P (aQ 74 (I (B9 ((d:Int)+(B9 ((B9 (aC (B9 ((B9 ((b:Int)+a))-1)) a))*a))))) (I (B9 ((d:Int)+(B9 ((B9 (aC (B9 ((B9 ((b:Int)+a))-1)) a))*a)))))) (fun D E=>∃ q r s,D=Sl q r s/\Bd (B9 ((B9 (aC (B9 ((B9 ((b:Int)+a))-1)) a))*a)=0) False
 (Az P b K a e l m n o d p q r s E)) C))))))
def Ni(P:aI)(a:OA)(b c:Nat)(d:OA)(e f:Nat)(h:aL)(K:VP):Prop:=
 Ih P a b c d e f h K
def Qu a b c d e f(hvc:Ni prog a b c d e f h K):aE prog 251 #[Sl a b c,Sl d e f] h K:=
 fnq func251 { loops:=[(3,⟨[7],[],[I 0],⟨([7]++Lrg 20 9),[]⟩⟩),(11,⟨[13,14],[],[N0,I 0],⟨([13,14,15,16,17]++Lrg 67 25),[]⟩⟩)] } [] [] hvc
def Au(P:aI)(C:OA)(D E:Nat)(K:VP)(F:OA)(G H:Nat)(p:OA)(q r:Nat)(L:OA)(M N:Nat)(O:aL):Prop:=
 ∃ (g:LP) (s:LN),g [.slice F G H,.slice L M N] O/\
 ∀ d e f a b c i,g [.slice d e f,.slice a b c] i->aE P 180 #[Sl a b c,Sl p q r] i (fun Q t=>∃ v,Q=I v/\Bd (v<0) (aE P 233 #[Sl a b c,Sl C D E] t (fun R S=>∃ j k l,R=Sl j k l/\wpH P (aK 74 1 #[(0,U 1)]) (fun T V=>∃ w x y,T=Sl w x y/\aE P 234 #[Sl d e f,Sl w x y] V (fun W u=>∃ m n o,W=Sl m n o/\g [.slice m n o,.slice j k l] u/\s [.slice m n o,.slice j k l] u<s [.slice d e f,.slice a b c] i)) S))
 (aE P 234 #[Sl a b c,Sl p q r] t (fun X a0=>∃ z A B,X=Sl z A B/\K (.tuple #[Sl d e f,Sl z A B]) a0)))
def Nf(P:aI)(d:OA)(e f:Nat)(c:OA)(a b:Nat)(h:aL)(K:VP):Prop:=
 (0<=B9 (aC (a:Int) (2:Int))/\B9 (aC (a:Int) (2:Int))<=(b:Int))/\(0<=B9 (aC (a:Int) (2:Int))/\B9 (aC (a:Int) (2:Int))<=(a:Int))/\aE P 192 #[.slice (U3 c b 0 1) (((B9 (aC (a:Int) (2:Int))).toNat)-0) (b-0)] h (fun b2 u=>∃ w x y,b2=Sl w x y/\h.le u/\aE P 296 #[Sl d e f,I (B9 (aC (a:Int) (2:Int)))] u (fun b3 b4=>∃ i j k,b3=Sl i j k/\∃ (g:LP),(aE P 296 #[Sl d e f,I (B9 ((2:Int)*(B9 (aC (a:Int) (2:Int)))))] b4 (fun b5 b6=>∃ z A B,b5=Sl z A B/\aE P 180 #[Sl z A B,.slice (U3 c b ((B9 (aC (a:Int) (2:Int))).toNat) 1) (a-((B9 (aC (a:Int) (2:Int))).toNat)) (b-((B9 (aC (a:Int) (2:Int))).toNat))] b6 (fun b7 v=>∃ C,b7=I C/\Bd (C<0) (aE P 297 #[Sl i j k,.slice (U3 c b ((B9 (aC (a:Int) (2:Int))).toNat) 1) (a-((B9 (aC (a:Int) (2:Int))).toNat)) (b-((B9 (aC (a:Int) (2:Int))).toNat))] v (fun b8 b9=>∃ (o:OA) (p q:Nat) (r:OA) (s t:Nat),b8= .tuple #[Sl o p q,Sl r s t]/\g [.slice o p q,.slice r s t] b9))
 (wpH P (aK 74 1 #[(0,U 18446744073709551615)]) (fun c0 c1=>∃ D E F,c0=Sl D E F/\aE P 314 #[Sl D E F,I (B9 (aC (a:Int) (2:Int)))] c1 (fun c2 c3=>∃ G H L,c2=Sl G H L/\aE P 298 #[.slice (U3 c b ((B9 (aC (a:Int) (2:Int))).toNat) 1) (a-((B9 (aC (a:Int) (2:Int))).toNat)) (b-((B9 (aC (a:Int) (2:Int))).toNat)),Sl none 0 0,I (B9 (aC (a:Int) (2:Int)))] c3 (fun c4 c5=>∃ M N O,c4=Sl M N O/\aE P 234 #[Sl i j k,Sl M N O] c5 (fun c6 c7=>∃ Q R S,c6=Sl Q R S/\aE P 233 #[Sl Q R S,.slice (U3 c b ((B9 (aC (a:Int) (2:Int))).toNat) 1) (a-((B9 (aC (a:Int) (2:Int))).toNat)) (b-((B9 (aC (a:Int) (2:Int))).toNat))] c7 (fun c8 c9=>∃ T V W,c8=Sl T V W/\g [.slice G H L,.slice T V W] c9))))) v))))/\
 ∀ l m n X a0 a1 a2,g [.slice l m n,.slice X a0 a1] a2->aE P 166 #[Sl l m n,Sl w x y] a2 (fun d0 d1=>∃ a3 a4 a5,d0=Sl a3 a4 a5/\aE P 295 #[Sl d e f,I (B9 (aC (a:Int) (2:Int)))] d1 (fun d2 d3=>∃ a6 a7 a8,d2=Sl a6 a7 a8/\aE P 298 #[Sl X a0 a1,Sl a6 a7 a8,I (B9 (aC (a:Int) (2:Int)))] d3 (fun d4 d5=>∃ a9 b0 b1,d4=Sl a9 b0 b1/\Au P c a b K l m n a3 a4 a5 a9 b0 b1 d5)))))
def Qs a b c d e f(hvc:Nf prog a b c d e f h K):aE prog 312 #[Sl a b c,Sl d e f] h K:=
 fnq func312 ⟨[(11,⟨[10,11],[],[N0,N0],⟨([10,11]++Lrg 58 10),[]⟩⟩)],[(9,⟨[10,11],[],[N0,N0],⟨([10,11]++Lrg 26 23),[]⟩⟩)],[(2,([0,1,2,4,5,6,3,7,8],[]))],[],[],(0,0)⟩ [] [] hvc
def Qf(P:aI)(C:LP)(s:LN)(f:OA)(d g:Nat)(t:OA)(u v:Nat)(D:Int)(E:Int)(F:Int)(G:Int)(H:Bool)(L:aL)(M:aL):Prop:=
 ∃ (i:LP) (w:LN),i [.slice t u v] L/\
 ∀ b a c e,i [.slice b a c] e->Bd ((a:Int)<(d:Int)) (wpH P (aK 74 1 #[(0,U 0)]) (fun N O=>∃ z A B,N=Sl z A B/\wpH P (aO #[74,74] 74 #[Sl b a c,Sl z A B]) (fun Q x=>∃ j k l,Q=Sl j k l/\i [.slice j k l] x/\w [.slice j k l] x<w [.slice b a c] e) O) e)
 (aE P 191 #[.agg #[U D,U E,U F,U G,.bool H],.slice f d g,.slice b a c] e (fun R S=>R=T0/\aE P 192 #[Sl f d g] S (fun T V=>∃ m n o,T=Sl m n o/\aE P 192 #[Sl b a c] V (fun W y=>∃ p q r,W=Sl p q r/\C [.slice m n o,.slice p q r] y/\s [.slice m n o,.slice p q r] y<s [.slice f d g,.slice t u v] M))))
def Kk(P:aI)(K:VP)(M:OA)(N O:Nat)(Q:OA)(R S:Nat)(T:aL):Prop:=
 ∃ (i:LP) (j:LN),i [.slice M N O,.slice Q R S] T/\
 ∀ d e f b a g c,i [.slice d e f,.slice b a g] c->Bd ((a:Int)>1) (aE P 189 #[Sl d e f,Sl b a g] c (fun a0 x=>∃ (q:Int) (r:Int) (k:Int) (s:Int) (t:Bool),a0= .agg #[U q,U r,U k,U s,.bool t]/\Br (k==0) (aE P 190 #[Sl d e f,Sl b a g] x (fun a1 a2=>∃ (V:OA) (W X:Nat) (u:OA) (v w:Nat),a1= .tuple #[Sl V W X,Sl u v w]/\aE P 188 #[Sl u v w] a2 (fun a3 y=>∃ n o p,a3=Sl n o p/\i [.slice b a g,.slice n o p] y/\j [.slice b a g,.slice n o p] y<j [.slice d e f,.slice b a g] c)))
 (Qf P i j d e f b a g q r k s t x c)))
 (Br ((a:Int)==0) (K (Sl d e f) c)
 (∃ A,Ax b A (0:Int) a <| ∃ B,c.cell? (A.add (((0:Int)).toNat*1))=some (U B)/\∃ C,Ax b C (0:Int) a <| ∃ D,c.cell? (C.add (((0:Int)).toNat*1))=some (U D)/\aE P 194 #[Sl d e f,U D] c (fun a4 l=>∃ E,a4=U E/\c.le l/\aE P 193 #[U B,U E] l (fun a5 m=>∃ F,a5=U F/\l.le m/\aE P 172 #[U F] m (fun a6 z=>∃ G H L,a6=Sl G H L/\m.le z/\K (Sl G H L) z)))))
def B1i(P:aI)(a:OA)(b c:Nat)(d:OA)(e f:Nat)(h:aL)(K:VP):Prop:=
 ∃ (g:LP),(aE P 180 #[Sl a b c,Sl d e f] h (fun x n=>∃ o,x=I o/\Bd (o<0) (g [.slice d e f,.slice a b c] n)
 (g [.slice a b c,.slice d e f] n)))/\
 ∀ j k l p i q m,g [.slice j k l,.slice p i q] m->Br ((i:Int)==0) (K (Sl j k l) m)
 (aE P 188 #[Sl j k l] m (fun y z=>∃ r s t,y=Sl r s t/\aE P 188 #[Sl p i q] z (fun A B=>∃ u v w,A=Sl u v w/\Kk P K r s t u v w B)))
def A26 a b c d e f(hvc:B1i prog a b c d e f h K):aE prog 120 #[Sl a b c,Sl d e f] h K:=
 fnq func120 { loops:=[(6,⟨[5,6],[],[N0,N0],⟨([5,6,7,8,9]++Lrg 24 34),[7]⟩⟩),(11,⟨[6],[],[N0],⟨([6]++Lrg 42 8),[]⟩⟩)],cuts:=[(3,⟨[0,1],[],[N0,N0],⟨[0,1,10,11,12,13,14,15],[]⟩⟩)] } [7] [191] hvc
def Ig(P:aI)(K:VP)(m:Int)(o:Int)(p:Int)(q:Int)(r:aL):Prop:=
 ∃ (l:LP) (n:LN),l [U (bor .u64 (C6 (o*2^(min (C6 m).toNat 64))) (aJ p (2^(min (C6 ((64:Int)-(C6 m))).toNat 64)))),U q,U 0,U 1,U 0,U 1,U 0,U 0,.bool false] r/\
 ∀ b a f d j e k c g i,l [U b,U a,U f,U d,U j,U e,U k,U c,.bool g] i->Bd (a>=d) (Bd ((C6 (b-a))>=(C6 (c+d))) (Bd (a=0) False
 (Bd (a=0) False
 (l [U a,U (aF b a),U (C6 (e+(C6 ((C6 (aC b a))*f)))),U (C6 (c+(C6 ((C6 (aC b a))*d)))),U e,U f,U c,U d,.bool (!g)] i/\n [U a,U (aF b a),U (C6 (e+(C6 ((C6 (aC b a))*f)))),U (C6 (c+(C6 ((C6 (aC b a))*d)))),U e,U f,U c,U d,.bool (!g)] i<n [U b,U a,U f,U d,U j,U e,U k,U c,.bool g] i)))
 (K (.agg #[U j,U e,U k,U c,.bool g]) i))
 (K (.agg #[U j,U e,U k,U c,.bool g]) i)
def A24(P:aI)(f:OA)(a x:Nat)(g:OA)(d y:Nat)(h:aL)(K:VP):Prop:=
 ∃ i,Ax f i (B9 ((a:Int)-1)) a <| ∃ j,h.cell? (i.add ((B9 ((a:Int)-1)).toNat*1))=some (U j)/\aE P 250 #[U j] h (fun w c=>∃ b,w=I b/\∃ k,Ax f k (B9 ((a:Int)-1)) a <| ∃ l,c.cell? (k.add ((B9 ((a:Int)-1)).toNat*1))=some (U l)/\Bd (C6 b<0) False
 (∃ m,Ax f m (B9 ((a:Int)-2)) a <| ∃ n,c.cell? (m.add ((B9 ((a:Int)-2)).toNat*1))=some (U n)/\Bd (C6 ((64:Int)-(C6 b))<0) False
 (∃ (e:LP),(Br ((d:Int)==(a:Int)) (∃ o,Ax g o (B9 ((a:Int)-1)) d <| ∃ p,c.cell? (o.add ((B9 ((a:Int)-1)).toNat*1))=some (U p)/\Bd (C6 b<0) False
 (∃ q,Ax g q (B9 ((a:Int)-2)) d <| ∃ r,c.cell? (q.add ((B9 ((a:Int)-2)).toNat*1))=some (U r)/\Bd (C6 ((64:Int)-(C6 b))<0) False
 (e [U (bor .u64 (C6 (p*2^(min (C6 b).toNat 64))) (aJ r (2^(min (C6 ((64:Int)-(C6 b))).toNat 64))))] c)))
 (Br ((d:Int)==(B9 ((a:Int)-1))) (∃ s,Ax g s (B9 ((a:Int)-2)) d <| ∃ t,c.cell? (s.add ((B9 ((a:Int)-2)).toNat*1))=some (U t)/\Bd (C6 ((64:Int)-(C6 b))<0) False
 (e [U (aJ t (2^(min (C6 ((64:Int)-(C6 b))).toNat 64)))] c))
 (e [U 0] c)))/\
 ∀ u v,e [U u] v->Ig P K b l n u v)))
def A23 a b c d e f(hvc:A24 prog a b c d e f h K):aE prog 189 #[Sl a b c,Sl d e f] h K:=
 fnq func189 { loops:=[(13,⟨[7,8,10,11],[(9,5)],[U 0,U 0,U 0,U 0,U 0,U 0,U 0,U 0,.bool false],⟨([7,8,10,11,12]++Lrg 72 46),[9]⟩⟩)],cuts:=[(10,⟨[8],[],[U 0],⟨([8]++Lrg 38 33),[]⟩⟩)] } [4,9] [] hvc
def Cg(P:aI)(o:LP)(i:LN)(a:ByteArray)(d:OA)(c f:Nat)(A:Int)(B:Int)(p:aL)(C:aL):Prop:=
 ∃ (j:LP) (q:LN),j [U A,I 0] C/\
 ∀ g b e,j [U g,I b] e->Bd (b<(c:Int)) (∃ u,Ax d u b c <| ∃ v,e.cell? (u.add (b.toNat*1))=some (U v)/\aE P 253 #[U v,U B,U g] e (fun D E=>∃ (r:Int) (k:Int),D= .tuple #[U r,U k]/\∃ w,Ax d w b c<|wpH P (aH 194 (Pt (w.add (b.toNat*1))) (U r)) (fun _ s=>j [U k,I (B9 (b+1))] s/\q [U k,I (B9 (b+1))] s<q [U g,I b] e) E))
 (Br (g != 0) (wpH P (aK 74 1 #[(0,U g)]) (fun F G=>∃ x y z,F=Sl x y z/\wpH P (aO #[74,74] 74 #[Sl d c f,Sl x y z]) (fun H t=>∃ l m n,H=Sl l m n/\o [.string ((a).extract ((B9 ((aF (B9 (((aN a:Nat):Int)-1)) (19:Int))+1)).toNat) ((a).size)),.slice l m n] t/\i [.string ((a).extract ((B9 ((aF (B9 (((aN a:Nat):Int)-1)) (19:Int))+1)).toNat) ((a).size)),.slice l m n] t<i [.string a,.slice d c f] p) G) e)
 (o [.string ((a).extract ((B9 ((aF (B9 (((aN a:Nat):Int)-1)) (19:Int))+1)).toNat) ((a).size)),.slice d c f] e/\i [.string ((a).extract ((B9 ((aF (B9 (((aN a:Nat):Int)-1)) (19:Int))+1)).toNat) ((a).size)),.slice d c f] e<i [.string a,.slice d c f] p))
def Jo(P:aI)(l:LP)(m:LN)(e:ByteArray)(n:OA)(o p:Nat)(q:OA)(i:Nat)(r:aL)(s:aL):Prop:=
 ∃ (f:LP) (j:LN),f [U 0,U 1,I 0] r/\
 ∀ c d a b,f [U c,U d,I a] b->Bd (a<(i:Int)) (∃ k,Ax q k a i <| ∃ g,b.cell? (k.add (a.toNat*1))=some (Y g)/\f [U (C6 ((C6 ((10:Int)*c))+(C6 (wu8 (g-48))))),U (C6 (d*(10:Int))),I (B9 (a+1))] b/\j [U (C6 ((C6 ((10:Int)*c))+(C6 (wu8 (g-48))))),U (C6 (d*(10:Int))),I (B9 (a+1))] b<j [U c,U d,I a] b)
 ((0<=B9 ((aF (B9 (((aN e:Nat):Int)-1)) (19:Int))+1)/\B9 ((aF (B9 (((aN e:Nat):Int)-1)) (19:Int))+1)<=(((e).size:Nat):Int))/\Cg P l m e n o p c d s b)
def Uu(P:aI)(j:ByteArray)(h:aL)(K:VP):Prop:=
 ∃ (c:LP) (k:LN),c [.string j,N0] h/\
 ∀ a d e f b,c [.string a,.slice d e f] b->Bd (((aN a:Nat):Int)>0) ((0<=B9 ((aF (B9 (((aN a:Nat):Int)-1)) (19:Int))+1)/\B9 ((aF (B9 (((aN a:Nat):Int)-1)) (19:Int))+1)<=(((a).size:Nat):Int))/\wpH P (convert 9 179 (.string ((a).extract 0 ((B9 ((aF (B9 (((aN a:Nat):Int)-1)) (19:Int))+1)).toNat)))) (fun l m=>∃ g i n,l=Sl g i n/\Jo P c k a d e f g i m b) b)
 (K (Sl d e f) b)
def A25(P:aI)(a:ByteArray)(h:aL)(K:VP):Prop:=
 Uu P a h K
def Tr a(hvc:A25 prog a h K):aE prog 249 #[.string a] h K:=
 fnq func249 { loops:=[(2,⟨[0,3],[],[.string ⟨#[]⟩,N0],⟨([0,3,4,5,6]++Lrg 8 58),[]⟩⟩),(6,⟨[5,6,25],[],[U 0,U 0,I 0],⟨([5,6,8]++Lrg 25 13),[]⟩⟩),(14,⟨[9,44],[],[U 0,I 0],⟨([9,10,11]++Lrg 44 16),[]⟩⟩)] } [] [] hvc
def Di(P:aI)(H:Nat)(L:LP)(p:LN)(q:OA)(r s:Nat)(j:Int)(M:Int)(N:aL)(O:aL):Prop:=
 ∃ (k:LP) (l:LN),k [.slice q r s,U M,I (B9 (j+(H:Int)))] N/\
 ∀ c b d f a e,k [.slice c b d,U f,I a] e->Br (f != 0) (Br (a==(b:Int)) (wpH P (aK 74 1 #[(0,U 0)]) (fun Q R=>∃ y z A,Q=Sl y z A/\wpH P (aO #[74,74] 74 #[Sl c b d,Sl y z A]) (fun S v=>∃ g i o,S=Sl g i o/\∃ B,Ax g B a i <| ∃ C,v.cell? (B.add (a.toNat*1))=some (U C)/\ECall P 287 #[U C,U f,U 0] v (fun T V=>∃ (t:Int) (m:Int),T= .tuple #[U t,U m]/\∃ D,Ax g D a i<|wpH P (aH 194 (Pt (D.add (a.toNat*1))) (U t)) (fun _ w=>k [.slice g i o,U m,I (B9 (a+1))] w/\l [.slice g i o,U m,I (B9 (a+1))] w<l [.slice c b d,U f,I a] e) V)) R) e)
 (∃ E,Ax c E a b <| ∃ F,e.cell? (E.add (a.toNat*1))=some (U F)/\ECall P 287 #[U F,U f,U 0] e (fun W X=>∃ (u:Int) (n:Int),W= .tuple #[U u,U n]/\∃ G,Ax c G a b<|wpH P (aH 194 (Pt (G.add (a.toNat*1))) (U u)) (fun _ x=>k [.slice c b d,U n,I (B9 (a+1))] x/\l [.slice c b d,U n,I (B9 (a+1))] x<l [.slice c b d,U f,I a] e) X)))
 (L [.slice c b d,I (B9 (j+1))] e/\p [.slice c b d,I (B9 (j+1))] e<p [.slice q r s,I j] O)
def Nj(P:aI)(K:VP)(m:OA)(b n:Nat)(o:OA)(i:Nat)(p:OA)(q r:Nat)(s:aL):Prop:=
 ∃ (f:LP) (t:LN),f [.slice p q r,I 0] s/\
 ∀ e g c a d,f [.slice e g c,I a] d->Bd (a<(i:Int)) (∃ j,Ax o j a i <| ∃ k,d.cell? (j.add (a.toNat*1))=some (U k)/\(0<=B9 (a+(b:Int))/\B9 (a+(b:Int))<=(c:Int))/\(0<=a/\a<=(((B9 (a+(b:Int))).toNat:Nat):Int))/\aE P 231 #[.slice (U3 e c (a.toNat) 1) (((B9 (a+(b:Int))).toNat)-(a.toNat)) (c-(a.toNat)),Sl m b n,U k] d (fun u v=>∃ l,u=U l/\Di P b f t e g c a l v d))
 (K (Sl e g c) d)
def Zd(P:aI)(q:OA)(r s:Nat)(K:VP)(t:OA)(j u:Nat)(v:OA)(k:Nat)(w:aL):Prop:=
 ∃ (e:LP) (l:LN),e [.slice q r s] w/\
 ∀ b a c d,e [.slice b a c] d->Bd ((a:Int)<(B9 ((j:Int)+(k:Int)))) (wpH P (aK 74 1 #[(0,U 0)]) (fun x y=>∃ n o p,x=Sl n o p/\wpH P (aO #[74,74] 74 #[Sl b a c,Sl n o p]) (fun z m=>∃ f g i,z=Sl f g i/\e [.slice f g i] m/\l [.slice f g i] m<l [.slice b a c] d) y) d)
 (Nj P K t j u v k b a c d)
def A44(P:aI)(C:OA)(D E:Nat)(m:OA)(b n:Nat)(o:OA)(c p:Nat)(h:aL)(K:VP):Prop:=
 ∃ (d:LP),(Bd ((b:Int)<(c:Int)) (d [.slice o c p,.slice m b n] h)
 (d [.slice m b n,.slice o c p] h))/\
 ∀ f g i j a k l,d [.slice f g i,.slice j a k] l->∃ (e:LP),(Bd ((a:Int)>=40) (aE P 166 #[Sl f g i,Sl j a k] l (fun F G=>∃ q r s,F=Sl q r s/\wpH P (aK 74 1 #[(0,U 1)]) (fun H L=>∃ t u v,H=Sl t u v/\e [.slice q r s,.slice t u v] L) G))
 (e [.slice f g i,.slice j a k] l))/\
 ∀ w x y z A M B,e [.slice w x y,.slice z A M] B->Zd P C D E K w x y z A B
def Uv a b c d e f g i j(hvc:A44 prog a b c d e f g i j h K):aE prog 237 #[Sl a b c,Sl d e f,Sl g i j] h K:=
 fnq func237 { loops:=[(5,⟨[0],[],[N0],⟨([0]++Lrg 25 11),[]⟩⟩),(8,⟨[0,38],[],[N0,I 0],⟨([0,7,8,9,10]++Lrg 38 43),[]⟩⟩),(12,⟨[0,9,10],[],[N0,U 0,I 0],⟨([0,9,10]++Lrg 57 23),[]⟩⟩)],cuts:=[(3,⟨[1,2],[],[N0,N0],⟨[1,2,11,12,13,14,15,16,17],[]⟩⟩),(5,⟨[1,2],[],[N0,N0],⟨[1,2,18,19,20,21,22,23,24],[]⟩⟩)] } [] [231] hvc
def A2b(P:aI)(i:Int)(f:Int)(c:Int)(a:Int)(l:LP)(n:aL):Prop:=
 ∃ (j:LP) (m:LN),j [U (C6 (aC (bor .u64 (C6 (i*2^(min (C6 a).toNat 64))) (aJ f (2^(min (C6 ((64:Int)-(C6 a))).toNat 64)))) (aJ (C6 (c*2^(min (C6 a).toNat 64))) (2^(min ((32:Int)).toNat 64))))),U (C6 ((bor .u64 (C6 (i*2^(min (C6 a).toNat 64))) (aJ f (2^(min (C6 ((64:Int)-(C6 a))).toNat 64))))-(C6 ((C6 (aC (bor .u64 (C6 (i*2^(min (C6 a).toNat 64))) (aJ f (2^(min (C6 ((64:Int)-(C6 a))).toNat 64)))) (aJ (C6 (c*2^(min (C6 a).toNat 64))) (2^(min ((32:Int)).toNat 64)))))*(aJ (C6 (c*2^(min (C6 a).toNat 64))) (2^(min ((32:Int)).toNat 64)))))))] n/\
 ∀ b d e,j [U b,U d] e->∃ (k:LP),(Bd (b>=4294967296) (k [] e)
 (Bd ((C6 (b*(A5f .u64 (C6 (c*2^(min (C6 a).toNat 64))) (4294967295:Int))))>(C6 ((C6 ((4294967296:Int)*d))+(aJ (C6 (f*2^(min (C6 a).toNat 64))) (2^(min ((32:Int)).toNat 64)))))) (k [] e)
 (l [U b] e)))/\
 ∀ g,k [] g->Bd ((C6 (d+(aJ (C6 (c*2^(min (C6 a).toNat 64))) (2^(min ((32:Int)).toNat 64)))))>=4294967296) (l [U (C6 (b-1))] g)
 (j [U (C6 (b-1)),U (C6 (d+(aJ (C6 (c*2^(min (C6 a).toNat 64))) (2^(min ((32:Int)).toNat 64)))))] g/\m [U (C6 (b-1)),U (C6 (d+(aJ (C6 (c*2^(min (C6 a).toNat 64))) (2^(min ((32:Int)).toNat 64)))))] g<m [U b,U d] e)
def A2a(P:aI)(i:Int)(d:Int)(b:Int)(a:Int)(j:Int)(m:LP)(o:aL):Prop:=
 ∃ (k:LP) (n:LN),k [U (C6 ((C6 ((C6 ((C6 ((bor .u64 (C6 (i*2^(min (C6 a).toNat 64))) (aJ d (2^(min (C6 ((64:Int)-(C6 a))).toNat 64))))*(4294967296:Int)))+(aJ (C6 (d*2^(min (C6 a).toNat 64))) (2^(min ((32:Int)).toNat 64)))))-(C6 (j*(C6 (b*2^(min (C6 a).toNat 64)))))))-(C6 ((C6 (aC (C6 ((C6 ((C6 ((bor .u64 (C6 (i*2^(min (C6 a).toNat 64))) (aJ d (2^(min (C6 ((64:Int)-(C6 a))).toNat 64))))*(4294967296:Int)))+(aJ (C6 (d*2^(min (C6 a).toNat 64))) (2^(min ((32:Int)).toNat 64)))))-(C6 (j*(C6 (b*2^(min (C6 a).toNat 64))))))) (aJ (C6 (b*2^(min (C6 a).toNat 64))) (2^(min ((32:Int)).toNat 64)))))*(aJ (C6 (b*2^(min (C6 a).toNat 64))) (2^(min ((32:Int)).toNat 64))))))),U (C6 (aC (C6 ((C6 ((C6 ((bor .u64 (C6 (i*2^(min (C6 a).toNat 64))) (aJ d (2^(min (C6 ((64:Int)-(C6 a))).toNat 64))))*(4294967296:Int)))+(aJ (C6 (d*2^(min (C6 a).toNat 64))) (2^(min ((32:Int)).toNat 64)))))-(C6 (j*(C6 (b*2^(min (C6 a).toNat 64))))))) (aJ (C6 (b*2^(min (C6 a).toNat 64))) (2^(min ((32:Int)).toNat 64)))))] o/\
 ∀ e c f,k [U e,U c] f->∃ (l:LP),(Bd (c>=4294967296) (l [] f)
 (Bd ((C6 (c*(A5f .u64 (C6 (b*2^(min (C6 a).toNat 64))) (4294967295:Int))))>(C6 ((C6 ((4294967296:Int)*e))+(A5f .u64 (C6 (d*2^(min (C6 a).toNat 64))) (4294967295:Int))))) (l [] f)
 (m [U c] f)))/\
 ∀ g,l [] g->Bd ((C6 (e+(aJ (C6 (b*2^(min (C6 a).toNat 64))) (2^(min ((32:Int)).toNat 64)))))>=4294967296) (m [U (C6 (c-1))] g)
 (k [U (C6 (e+(aJ (C6 (b*2^(min (C6 a).toNat 64))) (2^(min ((32:Int)).toNat 64))))),U (C6 (c-1))] g/\n [U (C6 (e+(aJ (C6 (b*2^(min (C6 a).toNat 64))) (2^(min ((32:Int)).toNat 64))))),U (C6 (c-1))] g<n [U e,U c] f)
def A2c(P:aI)(f:Int)(b:Int)(c:Int)(K:VP)(a:Int)(d:Int)(e:Int)(g:aL):Prop:=
 Bd (C6 a<0) False
 (K (.tuple #[U (C6 ((C6 (d*(4294967296:Int)))+e)),U (aJ (C6 ((C6 ((C6 ((C6 ((C6 ((C6 ((bor .u64 (C6 (f*2^(min (C6 a).toNat 64))) (aJ b (2^(min (C6 ((64:Int)-(C6 a))).toNat 64))))*(4294967296:Int)))+(aJ (C6 (b*2^(min (C6 a).toNat 64))) (2^(min ((32:Int)).toNat 64)))))-(C6 (d*(C6 (c*2^(min (C6 a).toNat 64)))))))*(4294967296:Int)))+(A5f .u64 (C6 (b*2^(min (C6 a).toNat 64))) (4294967295:Int))))-(C6 (e*(C6 (c*2^(min (C6 a).toNat 64))))))) (2^(min (C6 a).toNat 64)))]) g)
def A2d(P:aI)(c:Int)(d:Int)(a:Int)(K:VP)(b:Int)(e:Int)(j:aL):Prop:=
 Bd (aJ (C6 (a*2^(min (C6 b).toNat 64))) (2^(min ((32:Int)).toNat 64))=0) False
 (∃ (f:LP),(A2a P c d a b e f j)/\
 ∀ g i,f [U g] i->A2c P c d a K b e g i)
def B6b(P:aI)(c:Int)(d:Int)(a:Int)(h:aL)(K:VP):Prop:=
 Br (a==0) (∃ (i:Value),h.cell? (⟨2,0,none⟩)=some (i)/\False)
 (Bd (a<=c) (∃ (j:Value),h.cell? (⟨3,0,none⟩)=some (j)/\False)
 (Br (c==0) (Bd (a=0) False
 (Bd (a=0) False
 (K (.tuple #[U (C6 (aC d a)),U (aF d a)]) h)))
 (aE P 250 #[U a] h (fun k l=>∃ b,k=I b/\Bd (C6 b<0) False
 (Bd (C6 b<0) False
 (Bd (C6 ((64:Int)-(C6 b))<0) False
 (Bd (C6 b<0) False
 (Bd (aJ (C6 (a*2^(min (C6 b).toNat 64))) (2^(min ((32:Int)).toNat 64))=0) False
 (∃ (e:LP),(A2b P c d a b e l)/\
 ∀ f g,e [U f] g->A2d P c d a K b f g)))))))))
def B1x a b c(hvc:B6b prog a b c h K):aE prog 256 #[U a,U b,U c] h K:=
 fnq func256 { loops:=[(17,⟨[15,16],[],[U 0,U 0],⟨([15,16]++Lrg 67 19),[]⟩⟩),(24,⟨[16,18],[],[U 0,U 0],⟨([16,18]++Lrg 102 19),[]⟩⟩)],cuts:=[(18,⟨[],[],[],⟨(Lrg 67 12),[]⟩⟩),(21,⟨[15],[],[U 0],⟨([15,16]++Lrg 67 19),[]⟩⟩),(25,⟨[],[],[],⟨(Lrg 102 12),[]⟩⟩),(28,⟨[18],[],[U 0],⟨([16,18]++Lrg 102 19),[]⟩⟩)] } [] [] hvc
def Qz(P:aI)(a:Int)(h:aL)(K:VP):Prop:=
 Br (a==0) (K (I 64) h)
 ((0<=aJ (C6 ((A5f .u64 a (C6 (0-a)))*(285870213051353865:Int))) (2^(min ((58:Int)).toNat 64))/\aJ (C6 ((A5f .u64 a (C6 (0-a)))*(285870213051353865:Int))) (2^(min ((58:Int)).toNat 64))<(64:Int))/\∃ b,h.cell? (Addr.add (⟨1,0,none⟩) ((aJ (C6 ((A5f .u64 a (C6 (0-a)))*(285870213051353865:Int))) (2^(min ((58:Int)).toNat 64))).toNat*1))=some (Y b)/\K (I (B9 b)) h)
def Kl a(hvc:Qz prog a h K):aE prog 255 #[U a] h K:=
 fnq func255 an0 [] [] hvc
def A50:ByteArray:={ data:=#[0,1,2,2,3,3,3,3,4,4,4,4,4,4,4,4,5,5,5,5,5,5,5,5,5,5,5,5,5,5,5,5,6,6,6,6,6,6,6,6,6,6,6,6,6,6,6,6,6,6,6,6,6,6,6,6,6,6,6,6,6,6,6,6,7,7,7,7,7,7,7,7,7,7,7,7,7,7,7,7,7,7,7,7,7,7,7,7,7,7,7,7,7,7,7,7,7,7,7,7,7,7,7,7,7,7,7,7,7,7,7,7,7,7,7,7,7,7,7,7,7,7,7,7,7,7,7,7,8,8,8,8,8,8,8,8,8,8,8,8,8,8,8,8,8,8,8,8,8,8,8,8,8,8,8,8,8,8,8,8,8,8,8,8,8,8,8,8,8,8,8,8,8,8,8,8,8,8,8,8,8,8,8,8,8,8,8,8,8,8,8,8,8,8,8,8,8,8,8,8,8,8,8,8,8,8,8,8,8,8,8,8,8,8,8,8,8,8,8,8,8,8,8,8,8,8,8,8,8,8,8,8,8,8,8,8,8,8,8,8,8,8,8,8,8,8,8,8,8,8,8,8,8,8,8,8] }
def C34(P:aI)(c:Int)(h:aL)(K:VP):Prop:=
 ∃ (d:LP),(Bd (c>=4294967296) (d [U (aJ c (2^(min ((32:Int)).toNat 64))),I 32] h)
 (d [U c,I 0] h))/\
 ∀ a g i,d [U a,I g] i->∃ (e:LP),(Bd (a>=65536) (e [U (aJ a (2^(min ((16:Int)).toNat 64))),I (B9 (g+16))] i)
 (e [U a,I g] i))/\
 ∀ b j k,e [U b,I j] k->∃ (f:LP),(Bd (b>=256) (f [U (aJ b (2^(min ((8:Int)).toNat 64))),I (B9 (j+8))] k)
 (f [U b,I j] k))/\
 ∀ l n o,f [U l,I n] o->∃ (m:UInt8),(0<=wu8 l/\((A50:ByteArray))[(wu8 l).toNat]? = some m)/\K (I (B9 (n+(B9 ((m.toNat:Nat):Int))))) o
def B1w a(hvc:C34 prog a h K):aE prog 273 #[U a] h K:=
 fnq func273 { cuts:=[(4,⟨[0,2],[],[U 0,I 0],⟨[0,2,3,4,5,6],[]⟩⟩),(7,⟨[0,2],[],[U 0,I 0],⟨[0,2,7,8,9,10,11,12],[]⟩⟩),(10,⟨[0,2],[],[U 0,I 0],⟨[0,2,13,14,15,16,17,18],[]⟩⟩)] } [] [] hvc
def A76:C5d prog 287 (fun a=>do
 let (x,y,c)<-aT "Add64" a
 pure (aU ((x+y+c)%aP) ((x+y+c)/aP))):=⟨f287,func287,by kernel_rfl,by kernel_rfl,by kernel_rfl,by kernel_rfl⟩
def A75:C5d prog 254 (fun a=>do
 let (x,y,c)<-aT "Sub64" a
 pure (aU ((x+aP-y-c)%aP) (if x<y+c then 1 else 0))):=⟨f254,func254,by kernel_rfl,by kernel_rfl,by kernel_rfl,by kernel_rfl⟩
end
section
set_option maxRecDepth 100000
variable {h:aL} {K:VP}
def J5:ByteArray:={ data:=#[48,48,48,49,48,50,48,51,48,52,48,53,48,54,48,55,48,56,48,57,49,48,49,49,49,50,49,51,49,52,49,53,49,54,49,55,49,56,49,57,50,48,50,49,50,50,50,51,50,52,50,53,50,54,50,55,50,56,50,57,51,48,51,49,51,50,51,51,51,52,51,53,51,54,51,55,51,56,51,57,52,48,52,49,52,50,52,51,52,52,52,53,52,54,52,55,52,56,52,57,53,48,53,49,53,50,53,51,53,52,53,53,53,54,53,55,53,56,53,57,54,48,54,49,54,50,54,51,54,52,54,53,54,54,54,55,54,56,54,57,55,48,55,49,55,50,55,51,55,52,55,53,55,54,55,55,55,56,55,57,56,48,56,49,56,50,56,51,56,52,56,53,56,54,56,55,56,56,56,57,57,48,57,49,57,50,57,51,57,52,57,53,57,54,57,55,57,56,57,57] }
def Fy(P:aI)(c:OA)(d:Nat)(K:VP)(e:Int)(f:Int)(a:aL):Prop:=
 Bd (e>0) (∃ b,Ax c b (0:Int) d<|wpH P (aH 5 (Pt (b.add (((0:Int)).toNat*1))) (Y (wu8 (N4 ((48:Int)+f))))) (fun _ g=>K (T0) g) a)
 (K (T0) a)
def Fz(P:aI)(c:OA)(d:Nat)(K:VP)(a:Int)(b:Int)(f:aL):Prop:=
 ∃ (e:LP),(Bd (a>=2) (∃ (g:UInt8),(0<=N4 ((N4 ((aF b (100:Int))*(2:Int)))+1)/\((J5:ByteArray))[(N4 ((N4 ((aF b (100:Int))*(2:Int)))+1)).toNat]? = some g)/\∃ (i:UInt8),(0<=N4 ((aF b (100:Int))*(2:Int))/\((J5:ByteArray))[(N4 ((aF b (100:Int))*(2:Int))).toNat]? = some i)/\∃ j,Ax c j (B9 (a-1)) d<|wpH P (aH 5 (Pt (j.add ((B9 (a-1)).toNat*1))) (Y ((g.toNat:Nat):Int))) (fun _ o=>∃ k,Ax c k (B9 (a-2)) d<|wpH P (aH 5 (Pt (k.add ((B9 (a-2)).toNat*1))) (Y ((i.toNat:Nat):Int))) (fun _ p=>e [I (B9 (a-2)),U32 (N4 (aC b (100:Int)))] p) o) f)
 (e [I a,U32 b] f))/\
 ∀ l m n,e [I l,U32 m] n->Fy P c d K l m n
def Zf(P:aI)(d:OA)(c a4:Nat)(O:Int)(h:aL)(K:VP):Prop:=
 ∃ (f:LP) (i:LN),f [U O,I (c:Int)] h/\
 ∀ b a e,f [U b,I a] e->Bd (a>=8) (∃ (j:UInt8),(0<=N4 ((N4 ((aF (aF (N4 (aF b (100000000:Int))) (10000:Int)) (100:Int))*(2:Int)))+1)/\((J5:ByteArray))[(N4 ((N4 ((aF (aF (N4 (aF b (100000000:Int))) (10000:Int)) (100:Int))*(2:Int)))+1)).toNat]? = some j)/\∃ (k:UInt8),(0<=N4 ((aF (aF (N4 (aF b (100000000:Int))) (10000:Int)) (100:Int))*(2:Int))/\((J5:ByteArray))[(N4 ((aF (aF (N4 (aF b (100000000:Int))) (10000:Int)) (100:Int))*(2:Int))).toNat]? = some k)/\∃ w,Ax d w (B9 (a-1)) c<|wpH P (aH 5 (Pt (w.add ((B9 (a-1)).toNat*1))) (Y ((j.toNat:Nat):Int))) (fun _ Q=>∃ x,Ax d x (B9 (a-2)) c<|wpH P (aH 5 (Pt (x.add ((B9 (a-2)).toNat*1))) (Y ((k.toNat:Nat):Int))) (fun _ R=>∃ (l:UInt8),(0<=N4 ((N4 ((N4 (aC (aF (N4 (aF b (100000000:Int))) (10000:Int)) (100:Int)))*(2:Int)))+1)/\((J5:ByteArray))[(N4 ((N4 ((N4 (aC (aF (N4 (aF b (100000000:Int))) (10000:Int)) (100:Int)))*(2:Int)))+1)).toNat]? = some l)/\∃ (m:UInt8),(0<=N4 ((N4 (aC (aF (N4 (aF b (100000000:Int))) (10000:Int)) (100:Int)))*(2:Int))/\((J5:ByteArray))[(N4 ((N4 (aC (aF (N4 (aF b (100000000:Int))) (10000:Int)) (100:Int)))*(2:Int))).toNat]? = some m)/\∃ y,Ax d y (B9 (a-3)) c<|wpH P (aH 5 (Pt (y.add ((B9 (a-3)).toNat*1))) (Y ((l.toNat:Nat):Int))) (fun _ S=>∃ z,Ax d z (B9 (a-4)) c<|wpH P (aH 5 (Pt (z.add ((B9 (a-4)).toNat*1))) (Y ((m.toNat:Nat):Int))) (fun _ T=>∃ (n:UInt8),(0<=N4 ((N4 ((aF (N4 (aC (N4 (aF b (100000000:Int))) (10000:Int))) (100:Int))*(2:Int)))+1)/\((J5:ByteArray))[(N4 ((N4 ((aF (N4 (aC (N4 (aF b (100000000:Int))) (10000:Int))) (100:Int))*(2:Int)))+1)).toNat]? = some n)/\∃ (o:UInt8),(0<=N4 ((aF (N4 (aC (N4 (aF b (100000000:Int))) (10000:Int))) (100:Int))*(2:Int))/\((J5:ByteArray))[(N4 ((aF (N4 (aC (N4 (aF b (100000000:Int))) (10000:Int))) (100:Int))*(2:Int))).toNat]? = some o)/\∃ A,Ax d A (B9 (a-5)) c<|wpH P (aH 5 (Pt (A.add ((B9 (a-5)).toNat*1))) (Y ((n.toNat:Nat):Int))) (fun _ V=>∃ B,Ax d B (B9 (a-6)) c<|wpH P (aH 5 (Pt (B.add ((B9 (a-6)).toNat*1))) (Y ((o.toNat:Nat):Int))) (fun _ W=>∃ (p:UInt8),(0<=N4 ((N4 ((N4 (aC (N4 (aC (N4 (aF b (100000000:Int))) (10000:Int))) (100:Int)))*(2:Int)))+1)/\((J5:ByteArray))[(N4 ((N4 ((N4 (aC (N4 (aC (N4 (aF b (100000000:Int))) (10000:Int))) (100:Int)))*(2:Int)))+1)).toNat]? = some p)/\∃ (q:UInt8),(0<=N4 ((N4 (aC (N4 (aC (N4 (aF b (100000000:Int))) (10000:Int))) (100:Int)))*(2:Int))/\((J5:ByteArray))[(N4 ((N4 (aC (N4 (aC (N4 (aF b (100000000:Int))) (10000:Int))) (100:Int)))*(2:Int))).toNat]? = some q)/\∃ C,Ax d C (B9 (a-7)) c<|wpH P (aH 5 (Pt (C.add ((B9 (a-7)).toNat*1))) (Y ((p.toNat:Nat):Int))) (fun _ X=>∃ D,Ax d D (B9 (a-8)) c<|wpH P (aH 5 (Pt (D.add ((B9 (a-8)).toNat*1))) (Y ((q.toNat:Nat):Int))) (fun _ v=>f [U (C6 (aC b (100000000:Int))),I (B9 (a-8))] v/\i [U (C6 (aC b (100000000:Int))),I (B9 (a-8))] v<i [U b,I a] e) X) W) V) T) S) R) Q) e)
 (∃ (g:LP),(Bd (a>=4) (∃ (r:UInt8),(0<=N4 ((N4 ((aF (aF (N4 b) (10000:Int)) (100:Int))*(2:Int)))+1)/\((J5:ByteArray))[(N4 ((N4 ((aF (aF (N4 b) (10000:Int)) (100:Int))*(2:Int)))+1)).toNat]? = some r)/\∃ (s:UInt8),(0<=N4 ((aF (aF (N4 b) (10000:Int)) (100:Int))*(2:Int))/\((J5:ByteArray))[(N4 ((aF (aF (N4 b) (10000:Int)) (100:Int))*(2:Int))).toNat]? = some s)/\∃ E,Ax d E (B9 (a-1)) c<|wpH P (aH 5 (Pt (E.add ((B9 (a-1)).toNat*1))) (Y ((r.toNat:Nat):Int))) (fun _ a0=>∃ F,Ax d F (B9 (a-2)) c<|wpH P (aH 5 (Pt (F.add ((B9 (a-2)).toNat*1))) (Y ((s.toNat:Nat):Int))) (fun _ a1=>∃ (t:UInt8),(0<=N4 ((N4 ((N4 (aC (aF (N4 b) (10000:Int)) (100:Int)))*(2:Int)))+1)/\((J5:ByteArray))[(N4 ((N4 ((N4 (aC (aF (N4 b) (10000:Int)) (100:Int)))*(2:Int)))+1)).toNat]? = some t)/\∃ (u:UInt8),(0<=N4 ((N4 (aC (aF (N4 b) (10000:Int)) (100:Int)))*(2:Int))/\((J5:ByteArray))[(N4 ((N4 (aC (aF (N4 b) (10000:Int)) (100:Int)))*(2:Int))).toNat]? = some u)/\∃ G,Ax d G (B9 (a-3)) c<|wpH P (aH 5 (Pt (G.add ((B9 (a-3)).toNat*1))) (Y ((t.toNat:Nat):Int))) (fun _ a2=>∃ H,Ax d H (B9 (a-4)) c<|wpH P (aH 5 (Pt (H.add ((B9 (a-4)).toNat*1))) (Y ((u.toNat:Nat):Int))) (fun _ a3=>g [I (B9 (a-4)),U32 (N4 (aC (N4 b) (10000:Int)))] a3) a2) a1) a0) e)
 (g [I a,U32 (N4 b)] e))/\
 ∀ L M N,g [I L,U32 M] N->Fz P d c K L M N)
def Qx a b c d(hvc:Zf prog a b c d h K):aE prog 243 #[Sl a b c,U d] h K:=
 fnq func243 { loops:=[(1,⟨[1,4],[],[U 0,I 0],⟨([1]++Lrg 4 8++Lrg 19 77),[]⟩⟩)],cuts:=[(20,⟨[4,12],[],[I 0,.int .u32 0],⟨([4,12,13,14,15]++Lrg 98 40),[]⟩⟩),(25,⟨[4,12],[],[I 0,.int .u32 0],⟨([4,12,16]++Lrg 138 22),[]⟩⟩)] } [] [] hvc
def Yf:ByteArray:={ data:=#[48,49,50,51,52,53,54,55,56,57,97,98,99,100,101,102,103,104,105,106,107,108,109,110,111,112,113,114,115,116,117,118,119,120,121,122] }
def C2z(P:aI)(a:Int)(h:aL)(K:VP):Prop:=
 Bd (a<10) ((0<=B9 (a+1)/\B9 (a+1)<=((((Yf:ByteArray)).size:Nat):Int))/\(0<=a/\a<=(((B9 (a+1)).toNat:Nat):Int))/\K (.string (((Yf:ByteArray)).extract (a.toNat) ((B9 (a+1)).toNat))) h)
 ((0<=B9 ((B9 (a*(2:Int)))+2)/\B9 ((B9 (a*(2:Int)))+2)<=((((J5:ByteArray)).size:Nat):Int))/\(0<=B9 (a*(2:Int))/\B9 (a*(2:Int))<=(((B9 ((B9 (a*(2:Int)))+2)).toNat:Nat):Int))/\K (.string (((J5:ByteArray)).extract ((B9 (a*(2:Int))).toNat) ((B9 ((B9 (a*(2:Int)))+2)).toNat))) h)
def B1p a(hvc:C2z prog a h K):aE prog 241 #[I a] h K:=
 fnq func241 an0 [] [] hvc
end
section
set_option maxRecDepth 100000
variable {h:aL} {K:VP}
def C5b(P:aI)(b:Bool)(c:OA)(d e:Nat)(i:Bool)(j:OA)(k l:Nat)(h:aL)(K:VP):Prop:=
 aE P 103 #[Zv b c d e] h (fun f g=>∃ a,f=I a/\K (I a) g)
def B4u a b c d e f g i(hvc:C5b prog a b c d e f g i h K):aE prog 38 #[Qv a b c d e f g i] h K:=
 fnq func38 an0 [1] [] hvc
def C6h(P:aI)(f:Bool)(g:OA)(i j:Nat)(k:Bool)(l:OA)(m n:Nat)(h:aL)(K:VP):Prop:=
 aE P 93 #[Zv f g i j] h (fun o a=>∃ b c d e,o=Zv b c d e/\h.le a/\K (Qv b c d e k l m n) a)
def B96 a b c d e f g i(hvc:C6h prog a b c d e f g i h K):aE prog 182 #[Qv a b c d e f g i] h K:=
 fnq func182 { orders:=[(1,([0,1,3,4,2,5,6],[]))] } [1,2] [] hvc
def C6k(P:aI)(r:Bool)(s:OA)(t u:Nat)(e:Bool)(f:OA)(g i:Nat)(v:Bool)(w:OA)(x y:Nat)(a:Bool)(b:OA)(c d:Nat)(h:aL)(K:VP):Prop:=
 ∃ (A:LP),(aE P 109 #[Zv e f g i] h (fun i5 b0=>∃ (a3:Bool),i5= .bool a3/\Br a3 (aE P 109 #[Zv a b c d] b0 (fun i6 i7=>∃ (a4:Bool),i6= .bool a4/\A [.bool a4] i7))
 (A [.bool false] b0)))/\
 ∀ b9 R,A [.bool b9] R->Br b9 (aE P 181 #[Zv r s t u,Zv v w x y] R (fun i8 i9=>∃ c0 c1 c2 c3,i8=Zv c0 c1 c2 c3/\K (Qv c0 c1 c2 c3 false none 0 0) i9))
 (∃ (a5:LP),(aE P 109 #[Zv e f g i] R (fun j0 j1=>∃ (a6:Bool),j0= .bool a6/\a5 [.bool a6] j1))/\
 ∀ c4 z,a5 [.bool c4] z->Br c4 (aE P 81 #[Zv r s t u,Zv a b c d] z (fun j2 B=>∃ c5 c6 c7 c8,j2=Zv c5 c6 c7 c8/\z.le B/\aE P 181 #[Zv c5 c6 c7 c8,Zv v w x y] B (fun j3 b1=>∃ c9 d0 d1 d2,j3=Zv c9 d0 d1 d2/\B.le b1/\K (Qv c9 d0 d1 d2 a b c d) b1)))
 (aE P 109 #[Zv a b c d] z (fun j4 C=>∃ (a7:Bool),j4= .bool a7/\Br a7 (aE P 81 #[Zv v w x y,Zv e f g i] C (fun j5 D=>∃ d3 d4 d5 d6,j5=Zv d3 d4 d5 d6/\C.le D/\aE P 181 #[Zv d3 d4 d5 d6,Zv r s t u] D (fun j6 b2=>∃ d7 d8 d9 e0,j6=Zv d7 d8 d9 e0/\D.le b2/\K (Qv d7 d8 d9 e0 e f g i) b2)))
 (aE P 55 #[Zv e f g i,Zv a b c d] C (fun j7 b3=>∃ j k l m,j7=Zv j k l m/\aE P 168 #[Zv a b c d,Zv j k l m] b3 (fun j8 E=>∃ e1 e2 e3 e4,j8=Zv e1 e2 e3 e4/\b3.le E/\aE P 168 #[Zv e f g i,Zv j k l m] E (fun j9 F=>∃ S T V W,j9=Zv S T V W/\E.le F/\aE P 81 #[Zv r s t u,Zv e1 e2 e3 e4] F (fun k0 G=>∃ e5 e6 e7 e8,k0=Zv e5 e6 e7 e8/\F.le G/\aE P 81 #[Zv v w x y,Zv S T V W] G (fun k1 H=>∃ e9 f0 f1 f2,k1=Zv e9 f0 f1 f2/\G.le H/\aE P 181 #[Zv e5 e6 e7 e8,Zv e9 f0 f1 f2] H (fun k2 b4=>∃ n o p q,k2=Zv n o p q/\H.le b4/\aE P 109 #[Zv n o p q] b4 (fun k3 b5=>∃ (a8:Bool),k3= .bool a8/\Br a8 (K (Qv false none 0 0 false none 0 0) b5)
 (aE P 56 #[Zv j k l m] b5 (fun k4 L=>∃ (a9:Bool),k4= .bool a9/\Br a9 (aE P 81 #[Zv e f g i,Zv a b c d] L (fun k5 M=>∃ f3 f4 f5 f6,k5=Zv f3 f4 f5 f6/\L.le M/\aE P 111 #[Zv n o p q,Zv f3 f4 f5 f6] M (fun k6 b6=>∃ f7 f8 f9 g0 g1 g2 g3 g4,k6=Qv f7 f8 f9 g0 g1 g2 g3 g4/\M.le b6/\K (Qv f7 f8 f9 g0 g1 g2 g3 g4) b6)))
 (aE P 55 #[Zv n o p q,Zv j k l m] L (fun k7 b7=>∃ X a0 a1 a2,k7=Zv X a0 a1 a2/\aE P 168 #[Zv n o p q,Zv X a0 a1 a2] b7 (fun k8 N=>∃ g5 g6 g7 g8,k8=Zv g5 g6 g7 g8/\b7.le N/\aE P 168 #[Zv a b c d,Zv X a0 a1 a2] N (fun k9 O=>∃ g9 h0 h1 h2,k9=Zv g9 h0 h1 h2/\N.le O/\aE P 81 #[Zv S T V W,Zv g9 h0 h1 h2] O (fun l0 Q=>∃ h3 h4 h5 h6,l0=Zv h3 h4 h5 h6/\O.le Q/\aE P 111 #[Zv g5 g6 g7 g8,Zv h3 h4 h5 h6] Q (fun l1 b8=>∃ h7 h8 h9 i0 i1 i2 i3 i4,l1=Qv h7 h8 h9 i0 i1 i2 i3 i4/\Q.le b8/\K (Qv h7 h8 h9 i0 i1 i2 i3 i4) b8)))))))))))))))))))
def B99 a b c d e f g i j k l m n o p q(hvc:C6k prog a b c d e f g i j k l m n o p q h K):aE prog 101 #[Qv a b c d e f g i,Qv j k l m n o p q] h K:=
 fnq func101 { cuts:=[(2,⟨[10],[],[.bool false],⟨(Lrg 10 9),[]⟩⟩),(4,⟨[25],[],[.bool false],⟨[25,26,27,28],[]⟩⟩)],orders:=[(4,([0,1,2,3,5,6,8,9,4,7,10,11],[])),(6,([0,1,2,3,5,6,8,9,4,7,10,11],[])),(8,([0,1,2,4,5,6,8,9,3,7,10,11],[])),(9,([0,1,2,4,5,6,9,3,7,8,10],[])),(15,([0,1,3,4,5,6,2,7,8,9,10],[]))] } (Lrg 2 8) [] hvc
def C6g(P:aI)(t:Bool)(u:OA)(v w:Nat)(x:Bool)(y:OA)(z A:Nat)(B:Bool)(C:OA)(D E:Nat)(F:Bool)(G:OA)(H L:Nat)(h:aL)(K:VP):Prop:=
 aE P 182 #[Qv B C D E F G H L] h (fun M a=>∃ c d e f g i j k,M=Qv c d e f g i j k/\h.le a/\aE P 101 #[Qv t u v w x y z A,Qv c d e f g i j k] a (fun N b=>∃ l m n o p q r s,N=Qv l m n o p q r s/\a.le b/\K (Qv l m n o p q r s) b))
def B95 a b c d e f g i j k l m n o p q(hvc:C6g prog a b c d e f g i j k l m n o p q h K):aE prog 104 #[Qv a b c d e f g i,Qv j k l m n o p q] h K:=
 fnq func104 an0 [2,3,4] [] hvc
def C6i(P:aI)(a:Bool)(b:OA)(c d:Nat)(t:Bool)(u:OA)(v w:Nat)(e:Bool)(f:OA)(g i:Nat)(x:Bool)(y:OA)(z A:Nat)(h:aL)(K:VP):Prop:=
 ∃ (k:LP),(aE P 109 #[Zv a b c d] h (fun d5 a2=>∃ (B:Bool),d5= .bool B/\Br B (k [.bool true] a2)
 (aE P 109 #[Zv e f g i] a2 (fun d6 d7=>∃ (C:Bool),d6= .bool C/\k [.bool C] d7))))/\
 ∀ a5 s,k [.bool a5] s->Br a5 (K (Qv false none 0 0 false none 0 0) s)
 (∃ (l:LP),(aE P 109 #[Zv t u v w] s (fun d8 a3=>∃ (D:Bool),d8= .bool D/\Br D (aE P 109 #[Zv x y z A] a3 (fun d9 e0=>∃ (E:Bool),d9= .bool E/\l [.bool E] e0))
 (l [.bool false] a3)))/\
 ∀ a6 j,l [.bool a6] j->Br a6 (aE P 81 #[Zv a b c d,Zv e f g i] j (fun e1 e2=>∃ a7 a8 a9 b0,e1=Zv a7 a8 a9 b0/\K (Qv a7 a8 a9 b0 false none 0 0) e2))
 (aE P 82 #[Qv e f g i x y z A] j (fun e3 m=>∃ b1 b2 b3 b4,e3=Zv b1 b2 b3 b4/\j.le m/\aE P 110 #[Zv a b c d,Zv b1 b2 b3 b4] m (fun e4 n=>∃ (F:Bool) (G:OA) (H L:Nat) (M:Bool) (N:OA) (O Q:Nat),e4= .tuple #[Zv F G H L,Zv M N O Q]/\m.le n/\aE P 82 #[Qv a b c d t u v w] n (fun e5 o=>∃ b5 b6 b7 b8,e5=Zv b5 b6 b7 b8/\n.le o/\aE P 110 #[Zv e f g i,Zv b5 b6 b7 b8] o (fun e6 p=>∃ (R:Bool) (S:OA) (T V:Nat) (W:Bool) (X:OA) (a0 a1:Nat),e6= .tuple #[Zv R S T V,Zv W X a0 a1]/\o.le p/\aE P 81 #[Zv F G H L,Zv R S T V] p (fun e7 q=>∃ b9 c0 c1 c2,e7=Zv b9 c0 c1 c2/\p.le q/\aE P 81 #[Zv W X a0 a1,Zv M N O Q] q (fun e8 r=>∃ c3 c4 c5 c6,e8=Zv c3 c4 c5 c6/\q.le r/\aE P 111 #[Zv b9 c0 c1 c2,Zv c3 c4 c5 c6] r (fun e9 a4=>∃ c7 c8 c9 d0 d1 d2 d3 d4,e9=Qv c7 c8 c9 d0 d1 d2 d3 d4/\r.le a4/\K (Qv c7 c8 c9 d0 d1 d2 d3 d4) a4)))))))))
def B97 a b c d e f g i j k l m n o p q(hvc:C6i prog a b c d e f g i j k l m n o p q h K):aE prog 46 #[Qv a b c d e f g i,Qv j k l m n o p q] h K:=
 fnq func46 { cuts:=[(2,⟨[16],[],[.bool false],⟨(Lrg 9 8),[]⟩⟩),(4,⟨[25],[],[.bool false],⟨(Lrg 18 8),[]⟩⟩)],orders:=[(5,([0,1,2,8,9,3,4,5,6,7,10,11],[])),(6,([0,1,2,8,9,3,4,5,6,7,10,11],[])),(7,([0,1,3,4,2,5,6,7],[]))] } [2,3,4,5,6,7,8] [] hvc
def C6j(P:aI)(t:Bool)(u:OA)(v w:Nat)(x:Bool)(y:OA)(z A:Nat)(B:Bool)(C:OA)(D E:Nat)(F:Bool)(G:OA)(H L:Nat)(h:aL)(K:VP):Prop:=
 aE P 227 #[Qv B C D E F G H L] h (fun M a=>∃ c d e f g i j k,M=Qv c d e f g i j k/\h.le a/\aE P 46 #[Qv t u v w x y z A,Qv c d e f g i j k] a (fun N b=>∃ l m n o p q r s,N=Qv l m n o p q r s/\a.le b/\K (Qv l m n o p q r s) b))
def B98 a b c d e f g i j k l m n o p q(hvc:C6j prog a b c d e f g i j k l m n o p q h K):aE prog 262 #[Qv a b c d e f g i,Qv j k l m n o p q] h K:=
 fnq func262 an0 [2,3,4] [] hvc
end
section
set_option maxRecDepth 100000
variable {h:aL} {K:VP}
def Ii(P:aI)(E:LP)(o:LN)(d:OA)(b p:Nat)(q:OA)(r s:Nat)(t:aL):Prop:=
 ∃ (f:LP) (u:LN),f [U 0,I (B9 ((b:Int)-1))] t/\
 ∀ e a c,f [U e,I a] c->Bd (a>=0) (∃ y,Ax d y a b <| ∃ z,c.cell? (y.add (a.toNat*1))=some (U z)/\aE P 256 #[U e,U z,U 10000000000000000000] c (fun F G=>∃ (v:Int) (g:Int),F= .tuple #[U v,U g]/\∃ A,Ax d A a b<|wpH P (aH 194 (Pt (A.add (a.toNat*1))) (U v)) (fun _ w=>f [U g,I (B9 (a-1))] w/\u [U g,I (B9 (a-1))] w<u [U e,I a] c) G))
 (aE P 192 #[Sl d b p] c (fun H L=>∃ i j k,H=Sl i j k/\wpH P (aK 74 1 #[(0,U e)]) (fun M N=>∃ B C D,M=Sl B C D/\wpH P (aO #[74,74] 74 #[Sl q r s,Sl B C D]) (fun O x=>∃ l m n,O=Sl l m n/\E [.slice i j k,.slice l m n] x/\o [.slice i j k,.slice l m n] x<o [.slice d b p,.slice q r s] t) N) L))
def Fw(P:aI)(D:LP)(p:LN)(q:OA)(r s:Nat)(E:Bool)(f:Int)(F:OA)(t G:Nat)(H:Int)(L:aL)(M:aL):Prop:=
 ∃ (g:LP) (u:LN),g [.slice q r s,I 0] M/\
 ∀ b c d a e,g [.slice b c d,I a] e->Bd (a<(B9 (H-(t:Int)))) (wpH P (aK 179 1 #[(0,Y (48:Int))]) (fun N O=>∃ x y z,N=Sl x y z/\wpH P (aO #[179,179] 179 #[Sl b c d,Sl x y z]) (fun Q w=>∃ i j k,Q=Sl i j k/\g [.slice i j k,I (B9 (a+1))] w/\u [.slice i j k,I (B9 (a+1))] w<u [.slice b c d,I a] e) O) e)
 (∃ (v:LP),(wpH P (aO #[179,179] 179 #[Sl b c d,Sl F t G]) (fun R S=>∃ A B C,R=Sl A B C/\v [.slice A B C] S) e)/\
 ∀ l m n o,v [.slice l m n] o->D [.slice l m n,.bool false,I (B9 (f-1))] o/\p [.slice l m n,.bool false,I (B9 (f-1))] o<p [.slice q r s,.bool E,I f] L)
def Fv(P:aI)(p:Int)(K:VP)(q:OA)(r s:Nat)(t:aL):Prop:=
 ∃ (f:LP) (k:LN),f [.slice q r s,I 0] t/\
 ∀ b c d a e,f [.slice b c d,I a] e->Bd (a<p) (wpH P (aK 179 1 #[(0,Y (48:Int))]) (fun u v=>∃ m n o,u=Sl m n o/\wpH P (aO #[179,179] 179 #[Sl b c d,Sl m n o]) (fun w l=>∃ g i j,w=Sl g i j/\f [.slice g i j,I (B9 (a+1))] l/\k [.slice g i j,I (B9 (a+1))] l<k [.slice b c d,I a] e) v) e)
 (K (Sl b c d) e)
def Fx(P:aI)(t:OA)(u v:Nat)(i:Int)(K:VP)(w:OA)(l:Nat)(x:Addr)(y:aL):Prop:=
 ∃ (j:LP) (z:LN),j [.slice t u v,.bool true,I (B9 ((l:Int)-1))] y/\
 ∀ d e f g a b,j [.slice d e f,.bool g,I a] b->Bd (a>=0) ((0<=(0:Int)/\(0:Int)<=(20:Int))/\∃ n,Ax w n a l <| ∃ o,b.cell? (n.add (a.toNat*1))=some (U o)/\aE P 246 #[.slice (U3 (some x) 20 0 1) ((((0:Int)).toNat)-0) (20-0),U o,I 10] b (fun A m=>∃ p c q,A=Sl p c q/\∃ (k:LP),(Br g (k [I (if (B9 (i-(B9 ((19:Int)*a))))>(c:Int) then B9 (i-(B9 ((19:Int)*a))) else (c:Int))] m)
 (k [I 19] m))/\
 ∀ r s,k [I r] s->Fw P j z d e f g a p c q r b s))
 (Br g (Fv P i K d e f b)
 (K (Sl d e f) b))
def Ts(P:aI)(k:OA)(l m:Nat)(n:Int)(K:VP)(o:OA)(p q:Nat)(r:aL):Prop:=
 ∃ (a:LP) (s:LN),a [.slice o p q,N0] r/\
 ∀ g b i c d j e,a [.slice g b i,.slice c d j] e->Bd ((b:Int)>0) (Ii P a s g b i c d j e)
 (wpH P (Instr.alloc 360 true (T0)) (fun t u=>∃ (f:Addr),t=Pt f/\Fx P k l m n K c d f u) e)
def Ze(P:aI)(d:OA)(e f:Nat)(g:OA)(i j:Nat)(k:Int)(h:aL)(K:VP):Prop:=
 aE P 188 #[Sl g i j] h (fun l m=>∃ a b c,l=Sl a b c/\Ts P d e f k K a b c m)
def Qw a b c d e f g(hvc:Ze prog a b c d e f g h K):aE prog 294 #[Sl a b c,Sl d e f,I g] h K:=
 fnq func294 { loops:=[(3,⟨[7,8],[],[N0,N0],⟨([7,8,9,10]++Lrg 18 28),[]⟩⟩),(6,⟨[9,10],[],[U 0,I 0],⟨([9,10]++Lrg 24 16),[]⟩⟩),(14,⟨[0,12,13],[],[N0,.bool false,I 0],⟨([0,12,13,14,15]++Lrg 49 31),[]⟩⟩),(21,⟨[0,71],[],[N0,I 0],⟨[0,71,72,73,74,75,76],[]⟩⟩),(28,⟨[0,82],[],[N0,I 0],⟨[0,82,83,84,85,86,87],[]⟩⟩)],cuts:=[(20,⟨[15],[],[I 0],⟨([15]++Lrg 59 8),[]⟩⟩),(25,⟨[0],[],[N0],⟨[0,77,78,79],[]⟩⟩)] } [] [246] hvc
end
