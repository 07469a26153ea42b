/- A part. -/
import Derived.Test.YtdphgbjaijlckaaGreatDoorG09
open Go.Proofs.Tryz
set_option linter.all false
open _root_.Go.Builtin renaming append_->aL,copy_->aO
open _root_.ByteArray renaming size->aJ
open _root_.Go.Extern.MathBitsCarry renaming m64->aM,three->aP,pair->aQ
open _root_.Go.Instr renaming storeAt->aF,buildSlice->aI,makeSlice->aN
open Int renaming tdiv->aC,tmod->aD,fdiv->aH
open _root_.Go renaming Program->aG
open _root_.Go.Proofs.YtdphgbjaijlckaaGreatDoor renaming FCall->aE,Heap->aK
namespace Go.Proofs.YtdphgbjaijlckaaGreatDoor
open Go
section
set_option maxRecDepth 100000
variable {h:aK} {K:VP}
def K0:SliceT prog 89 230 (U 0) 1 8:=⟨by kernel_rfl,by kernel_rfl,rfl,dc⟩
def E6:prog.cellsOf 230=1/\(prog.info? 230).isSome=true:=⟨by kernel_rfl,by kernel_rfl⟩
def Sg:SliceT prog 266 89 (N0) 1 24:=⟨by kernel_rfl,by kernel_rfl,rfl,dc⟩
def Y6(P:aG)(K:VP)(s:OA)(b t:Nat)(u:OA)(g:Nat)(e:OA)(i d:Nat)(v:aK):Prop:=
 ∃ (f:LP) (j:LN),f [I 0] v/\
 ∀ a c,f [I a] c->Bd (a<(g:Int)) (∃ l,Ax u l a g <| ∃ m,c.cell? (l.add (a.toNat*1))=some (U m)/\(0<=B7 (a+(b:Int))/\B7 (a+(b:Int))<=(d:Int))/\(0<=a/\a<=(((B7 (a+(b:Int))).toNat:Nat):Int))/\aE P 246 #[.slice (N3 e d (a.toNat) 1) (((B7 (a+(b:Int))).toNat)-(a.toNat)) (d-(a.toNat)),Sl s b t,U m] c (fun w x=>∃ n,w=U n/\∃ o,Ax e o (B7 (a+(b:Int))) i<|wpH P (aF 230 (Pt (o.add ((B7 (a+(b:Int))).toNat*1))) (U n)) (fun _ k=>f [I (B7 (a+1))] k/\j [I (B7 (a+1))] k<j [I a] c) x))
 (aE P 221 #[Sl e i d] c (fun y z=>∃ p q r,y=Sl p q r/\K (Sl p q r) z))
def U9(P:aG)(D:OA)(m E:Nat)(F:OA)(n G:Nat)(h:aK)(K:VP):Prop:=
 ∃ (o:LP),(Bd ((m:Int)<(n:Int)) (o [.slice F n G,.slice D m E] h)
 (o [.slice D m E,.slice F n G] h))/\
 ∀ f a c g b d k,o [.slice f a c,.slice g b d] k->Br ((b:Int)==0) (K (Sl none 0 0) k)
 (∃ (p:LP),(Br ((b:Int)==1) (∃ L,Ax g L (0:Int) b <| ∃ M,k.cell? (L.add (((0:Int)).toNat*1))=some (U M)/\p [.bool (M==1)] k)
 (p [.bool false] k))/\
 ∀ N j,p [.bool N] j->Br N (K (Sl f a c) j)
 (Bd ((b:Int)<40) (wpH P (aN 89 (I (B7 ((a:Int)+(b:Int)))) (I (B7 ((a:Int)+(b:Int))))) (fun b6 b7=>∃ O Q R,b6=Sl O Q R/\Y6 P K f a c g b O Q R b7) j)
 (Bd ((b:Int)<=(B7 (aC (B7 ((a:Int)+1)) (2:Int)))) (aE P 247 #[Sl f a c,Sl g b d] j (fun b8 b9=>∃ S T V,b8=Sl S T V/\K (Sl S T V) b9))
 ((0<=B7 (aC (B7 ((a:Int)+1)) (2:Int))/\B7 (aC (B7 ((a:Int)+1)) (2:Int))<=(c:Int))/\(0<=B7 (aC (B7 ((a:Int)+1)) (2:Int))/\B7 (aC (B7 ((a:Int)+1)) (2:Int))<=(a:Int))/\aE P 221 #[.slice (N3 f c 0 1) (((B7 (aC (B7 ((a:Int)+1)) (2:Int))).toNat)-0) (c-0)] j (fun c0 q=>∃ r s t,c0=Sl r s t/\j.le q/\(0<=B7 (aC (B7 ((a:Int)+1)) (2:Int))/\B7 (aC (B7 ((a:Int)+1)) (2:Int))<=(d:Int))/\(0<=B7 (aC (B7 ((a:Int)+1)) (2:Int))/\B7 (aC (B7 ((a:Int)+1)) (2:Int))<=(b:Int))/\aE P 221 #[.slice (N3 g d 0 1) (((B7 (aC (B7 ((a:Int)+1)) (2:Int))).toNat)-0) (d-0)] q (fun c1 H=>∃ u v w,c1=Sl u v w/\q.le H/\aE P 197 #[Sl r s t,Sl u v w] H (fun c2 c3=>∃ x y z,c2=Sl x y z/\aE P 197 #[.slice (N3 f c ((B7 (aC (B7 ((a:Int)+1)) (2:Int))).toNat) 1) (a-((B7 (aC (B7 ((a:Int)+1)) (2:Int))).toNat)) (c-((B7 (aC (B7 ((a:Int)+1)) (2:Int))).toNat)),.slice (N3 g d ((B7 (aC (B7 ((a:Int)+1)) (2:Int))).toNat) 1) (b-((B7 (aC (B7 ((a:Int)+1)) (2:Int))).toNat)) (d-((B7 (aC (B7 ((a:Int)+1)) (2:Int))).toNat))] c3 (fun c4 c5=>∃ A B C,c4=Sl A B C/\aE P 198 #[Sl r s t,.slice (N3 f c ((B7 (aC (B7 ((a:Int)+1)) (2:Int))).toNat) 1) (a-((B7 (aC (B7 ((a:Int)+1)) (2:Int))).toNat)) (c-((B7 (aC (B7 ((a:Int)+1)) (2:Int))).toNat))] c5 (fun c6 c7=>∃ W X a0,c6=Sl W X a0/\aE P 198 #[Sl u v w,.slice (N3 g d ((B7 (aC (B7 ((a:Int)+1)) (2:Int))).toNat) 1) (b-((B7 (aC (B7 ((a:Int)+1)) (2:Int))).toNat)) (d-((B7 (aC (B7 ((a:Int)+1)) (2:Int))).toNat))] c7 (fun c8 c9=>∃ a1 a2 a3,c8=Sl a1 a2 a3/\aE P 197 #[Sl W X a0,Sl a1 a2 a3] c9 (fun d0 d1=>∃ a4 a5 a6,d0=Sl a4 a5 a6/\aE P 199 #[Sl a4 a5 a6,Sl x y z] d1 (fun d2 d3=>∃ a7 a8 a9,d2=Sl a7 a8 a9/\aE P 199 #[Sl a7 a8 a9,Sl A B C] d3 (fun d4 d5=>∃ b0 b1 b2,d4=Sl b0 b1 b2/\wpH P (aN 89 (I (B7 ((a:Int)+(b:Int)))) (I (B7 ((a:Int)+(b:Int))))) (fun d6 d7=>∃ l e i,d6=Sl l e i/\wpH P (aO #[89,89] 3 #[Sl l e i,Sl x y z]) (fun d8 d9=>∃ e6,d8=I e6/\(0<=B7 ((2:Int)*(B7 (aC (B7 ((a:Int)+1)) (2:Int))))/\B7 ((2:Int)*(B7 (aC (B7 ((a:Int)+1)) (2:Int))))<=(e:Int))/\wpH P (aO #[89,89] 3 #[.slice (N3 l i ((B7 ((2:Int)*(B7 (aC (B7 ((a:Int)+1)) (2:Int))))).toNat) 1) (e-((B7 ((2:Int)*(B7 (aC (B7 ((a:Int)+1)) (2:Int))))).toNat)) (i-((B7 ((2:Int)*(B7 (aC (B7 ((a:Int)+1)) (2:Int))))).toNat)),Sl A B C]) (fun e0 e1=>∃ e7,e0=I e7/\(0<=B7 (aC (B7 ((a:Int)+1)) (2:Int))/\B7 (aC (B7 ((a:Int)+1)) (2:Int))<=(e:Int))/\aE P 248 #[.slice (N3 l i ((B7 (aC (B7 ((a:Int)+1)) (2:Int))).toNat) 1) (e-((B7 (aC (B7 ((a:Int)+1)) (2:Int))).toNat)) (i-((B7 (aC (B7 ((a:Int)+1)) (2:Int))).toNat)),Sl b0 b1 b2] e1 (fun e2 e3=>e2=T0/\aE P 221 #[Sl l e i] e3 (fun e4 e5=>∃ b3 b4 b5,e4=Sl b3 b4 b5/\K (Sl b3 b4 b5) e5))) d9) d7) d5)))))))))))))
def Y5 a b c d e f(hvc:U9 prog a b c d e f h K):aE prog 197 #[Sl a b c,Sl d e f] h K:=
 fnq func197 ⟨[(11,⟨[55],[],[I 0],⟨([7,8]++Lrg 55 22),[]⟩⟩)],[(3,⟨[0,1],[],[N0,N0],⟨[0,1,17,18,19,20,21,22,23],[]⟩⟩),(7,⟨[32],[],[.bool false],⟨(Lrg 32 10),[]⟩⟩)],[(18,([0,1,2,4,5,6,3,7,8],[])),(19,([0,1,2,4,5,6,3,7,8],[]))],[],[]⟩ [] [246,248] hvc
def Ao(P:aG)(d:Nat)(w:OA)(k:Nat)(e:OA)(f:Nat)(b:Int)(x:Int)(y:LP)(z:aK):Prop:=
 ∃ (i:LP) (l:LN),i [U 0,I 0] z/\
 ∀ g a c,i [U g,I a] c->Bd (a<(k:Int)) (∃ o,Ax w o a k <| ∃ p,c.cell? (o.add (a.toNat*1))=some (U p)/\∃ q,Ax e q (B7 (b+a)) f <| ∃ r,c.cell? (q.add ((B7 (b+a)).toNat*1))=some (U r)/\ECall P 274 #[U r,U p,U g] c (fun A B=>∃ (m:Int) (j:Int),A= .tuple #[U m,U j]/\∃ s,Ax e s (B7 (b+a)) f<|wpH P (aF 230 (Pt (s.add ((B7 (b+a)).toNat*1))) (U m)) (fun _ n=>i [U j,I (B7 (a+1))] n/\l [U j,I (B7 (a+1))] n<l [U g,I a] c) B))
 (∃ t,Ax e t (B7 (b+(d:Int))) f <| ∃ u,c.cell? (t.add ((B7 (b+(d:Int))).toNat*1))=some (U u)/\∃ v,Ax e v (B7 (b+(d:Int))) f<|wpH P (aF 230 (Pt (v.add ((B7 (b+(d:Int))).toNat*1))) (U (C1 (u+g)))) (fun _ C=>y [U (C1 (x-1))] C) c)
def As(P:aG)(b:Nat)(K:VP)(L:Int)(g:OA)(i n:Nat)(d:OA)(e c:Nat)(o:OA)(p M:Nat)(N:LP)(q:LN)(a:Int)(j:aK):Prop:=
 Bd (a>=0) ((0<=B7 ((B7 (a+(b:Int)))+1)/\B7 ((B7 (a+(b:Int)))+1)<=(c:Int))/\(0<=a/\a<=(((B7 ((B7 (a+(b:Int)))+1)).toNat:Nat):Int))/\aE P 283 #[.slice (N3 d c (a.toNat) 1) (((B7 ((B7 (a+(b:Int)))+1)).toNat)-(a.toNat)) (c-(a.toNat)),Sl g i n] j (fun O Q=>∃ f,O=U f/\(0<=B7 (a+(b:Int))/\B7 (a+(b:Int))<=(c:Int))/\(0<=a/\a<=(((B7 (a+(b:Int))).toNat:Nat):Int))/\aE P 284 #[.slice (N3 d c (a.toNat) 1) (((B7 (a+(b:Int))).toNat)-(a.toNat)) (c-(a.toNat)),Sl g i n,U f] Q (fun R r=>∃ l,R=U l/\∃ u,Ax d u (B7 (a+(b:Int))) e <| ∃ m,r.cell? (u.add ((B7 (a+(b:Int))).toNat*1))=some (U m)/\∃ v,Ax d v (B7 (a+(b:Int))) e<|wpH P (aF 230 (Pt (v.add ((B7 (a+(b:Int))).toNat*1))) (U (C1 (m-l)))) (fun _ s=>∃ (k:LP),(Bd (m<l) (Ao P b g i d e a f k s)
 (k [U f] s))/\
 ∀ w x,k [U w] x->∃ y,Ax o y a p<|wpH P (aF 230 (Pt (y.add (a.toNat*1))) (U w)) (fun _ t=>N [I (B7 (a-1))] t/\q [I (B7 (a-1))] t<q [I a] j) x) r)))
 (aE P 221 #[Sl o p M] j (fun S T=>∃ z A B,S=Sl z A B/\aE P 221 #[Sl d e c] T (fun V W=>∃ C D E,V=Sl C D E/\aE P 281 #[Sl C D E,U (C1 L)] W (fun X a0=>∃ F G H,X=Sl F G H/\K (.tuple #[Sl z A B,Sl F G H]) a0))))
def R4(P:aG)(e b:Nat)(K:VP)(f:Int)(g:OA)(i j:Nat)(k:OA)(l m:Nat)(n:OA)(o p:Nat)(q:aK):Prop:=
 ∃ (a:LP) (r:LN),a [I (B7 ((e:Int)-(b:Int)))] q/\
 ∀ c d,a [I c] d->As P b K f g i j k l m n o p a r c d
def Fc(P:aG)(d:OA)(b e:Nat)(f:OA)(a l:Nat)(h:aK)(K:VP):Prop:=
 aE P 196 #[Sl d b e,Sl f a l] h (fun H c=>∃ q,H=I q/\Bd (q<0) (K (.tuple #[Sl none 0 0,Sl d b e]) c)
 (Br ((a:Int)==1) (∃ r,Ax f r (0:Int) a <| ∃ s,c.cell? (r.add (((0:Int)).toNat*1))=some (U s)/\aE P 282 #[Sl d b e,U s] c (fun L M=>∃ (m:OA) (n o:Nat) (p:Int),L= .tuple #[Sl m n o,U p]/\aE P 233 #[U p] M (fun N O=>∃ t u v,N=Sl t u v/\K (.tuple #[Sl m n o,Sl t u v]) O)))
 (∃ w,Ax f w (B7 ((a:Int)-1)) a <| ∃ x,c.cell? (w.add ((B7 ((a:Int)-1)).toNat*1))=some (U x)/\aE P 258 #[U x] c (fun Q R=>∃ g,Q=I g/\aE P 276 #[Sl f a l,U (C1 g)] R (fun S T=>∃ y z A,S=Sl y z A/\wpH P (aN 89 (I (B7 ((b:Int)+1))) (I (B7 ((b:Int)+1)))) (fun V W=>∃ i j k,V=Sl i j k/\aE P 276 #[Sl d b e,U (C1 g)] W (fun X a0=>∃ B C D,X=Sl B C D/\wpH P (aO #[89,89] 3 #[Sl i j k,Sl B C D]) (fun a1 a2=>∃ a5,a1=I a5/\wpH P (aN 89 (I (B7 ((B7 ((b:Int)-(a:Int)))+1))) (I (B7 ((B7 ((b:Int)-(a:Int)))+1)))) (fun a3 a4=>∃ E F G,a3=Sl E F G/\R4 P b a K g y z A i j k E F G a4) a2) a0)) T)))))
def Hg a b c d e f(hvc:Fc prog a b c d e f h K):aE prog 260 #[Sl a b c,Sl d e f] h K:=
 fnq func260 ⟨[(13,⟨[13],[],[I 0],⟨([13,14,15,16,17,18,19]++Lrg 72 79),[]⟩⟩),(23,⟨[17,115],[],[U 0,I 0],⟨([17,18,19]++Lrg 115 23),[]⟩⟩)],[(28,⟨[14],[],[U 0],⟨([14,17,18,19]++Lrg 108 39),[]⟩⟩)],[],[],[]⟩ [] [284] hvc
def R5(P:aG)(c:Nat)(K:VP)(a:Int)(N:Int)(O:OA)(Q R:Nat)(S:OA)(o T:Nat)(p:OA)(i j:Nat)(V:aK):Prop:=
 ∃ (k:LP) (q:LN),k [N0,I (B7 ((B7 (aC (B7 ((o:Int)-1)) (B7 ((B7 (aC (B7 ((B7 ((c:Int)+a))-1)) a))*a))))*(B7 ((B7 (aC (B7 ((B7 ((c:Int)+a))-1)) a))*a))))] V/\
 ∀ d e f b g,k [.slice d e f,I b] g->Bd (b>=0) (aE P 278 #[Sl S o T,I b] g (fun W X=>∃ v w x,W=Sl v w x/\aE P 277 #[Sl v w x,I (B7 ((B7 (aC (B7 ((B7 ((c:Int)+a))-1)) a))*a))] X (fun a0 a1=>∃ y z A,a0=Sl y z A/\aE P 280 #[Sl d e f,Sl y z A,I (B7 ((B7 (aC (B7 ((B7 ((c:Int)+a))-1)) a))*a))] a1 (fun a2 a3=>∃ B C D,a2=Sl B C D/\aE P 279 #[Sl B C D,Sl O Q R] a3 (fun a4 a5=>∃ (r:OA) (s t:Nat) (l:OA) (m n:Nat),a4= .tuple #[Sl r s t,Sl l m n]/\(0<=b/\b<=(i:Int))/\wpH P (aO #[89,89] 3 #[.slice (N3 p j (b.toNat) 1) (i-(b.toNat)) (j-(b.toNat)),Sl r s t]) (fun a6 u=>∃ b1,a6=I b1/\k [.slice l m n,I (B7 (b-(B7 ((B7 (aC (B7 ((B7 ((c:Int)+a))-1)) a))*a))))] u/\q [.slice l m n,I (B7 (b-(B7 ((B7 (aC (B7 ((B7 ((c:Int)+a))-1)) a))*a))))] u<q [.slice d e f,I b] g) a5)))))
 (aE P 221 #[Sl p i j] g (fun a7 a8=>∃ E F G,a7=Sl E F G/\aE P 281 #[Sl d e f,U (C1 (B7 ((B7 ((64:Int)*(B7 ((B7 ((B7 (aC (B7 ((B7 ((c:Int)+a))-1)) a))*a))-(c:Int)))))+N)))] a8 (fun a9 b0=>∃ H L M,a9=Sl H L M/\K (.tuple #[Sl E F G,Sl H L M]) b0)))
def Cd(P:aG)(t:OA)(u v:Nat)(g:OA)(b w:Nat)(h:aK)(K:VP):Prop:=
 ∃ (f:LP) (i:LN),f [I 1] h/\
 ∀ a c,f [I a] c->Bd (a=0) False
 (Bd ((B7 (aC (B7 ((B7 ((b:Int)+a))-1)) a))>=80) (f [I (B7 (a*(2:Int)))] c/\i [I (B7 (a*(2:Int)))] c<i [I a] c)
 (Bd (a=0) False
 (∃ j,Ax g j (B7 ((b:Int)-1)) b <| ∃ k,c.cell? (j.add ((B7 ((b:Int)-1)).toNat*1))=some (U k)/\aE P 258 #[U k] c (fun x y=>∃ e,x=I e/\aE P 276 #[Sl g b w,U (C1 (B7 ((B7 ((64:Int)*(B7 ((B7 ((B7 (aC (B7 ((B7 ((b:Int)+a))-1)) a))*a))-(b:Int)))))+e)))] y (fun z A=>∃ l m n,z=Sl l m n/\aE P 276 #[Sl t u v,U (C1 (B7 ((B7 ((64:Int)*(B7 ((B7 ((B7 (aC (B7 ((B7 ((b:Int)+a))-1)) a))*a))-(b:Int)))))+e)))] A (fun B C=>∃ o d p,B=Sl o d p/\wpH P (aN 89 (I (B7 ((d:Int)+(B7 ((B7 (aC (B7 ((B7 ((b:Int)+a))-1)) a))*a))))) (I (B7 ((d:Int)+(B7 ((B7 (aC (B7 ((B7 ((b:Int)+a))-1)) a))*a)))))) (fun D E=>∃ q r s,D=Sl q r s/\Bd (B7 ((B7 (aC (B7 ((B7 ((b:Int)+a))-1)) a))*a)=0) False
 (R5 P b K a e l m n o d p q r s E)) C))))))
def Fd(P:aG)(a:OA)(b c:Nat)(d:OA)(e f:Nat)(h:aK)(K:VP):Prop:=
 Cd P a b c d e f h K
def Hh a b c d e f(hvc:Fd prog a b c d e f h K):aE prog 259 #[Sl a b c,Sl d e f] h K:=
 fnq func259 { loops:=[(3,⟨[7],[],[I 0],⟨([7]++Lrg 20 9),[]⟩⟩),(11,⟨[13,14],[],[N0,I 0],⟨([13,14,15,16,17]++Lrg 67 25),[]⟩⟩)] } [] [] hvc
def R3(P:aG)(C:OA)(D E:Nat)(K:VP)(F:OA)(G H:Nat)(p:OA)(q r:Nat)(L:OA)(M N:Nat)(O:aK):Prop:=
 ∃ (g:LP) (s:LN),g [.slice F G H,.slice L M N] O/\
 ∀ d e f a b c i,g [.slice d e f,.slice a b c] i->aE P 196 #[Sl a b c,Sl p q r] i (fun Q t=>∃ v,Q=I v/\Bd (v<0) (aE P 198 #[Sl a b c,Sl C D E] t (fun R S=>∃ j k l,R=Sl j k l/\wpH P (aI 89 1 #[(0,U 1)]) (fun T V=>∃ w x y,T=Sl w x y/\aE P 199 #[Sl d e f,Sl w x y] V (fun W u=>∃ m n o,W=Sl m n o/\g [.slice m n o,.slice j k l] u/\s [.slice m n o,.slice j k l] u<s [.slice d e f,.slice a b c] i)) S))
 (aE P 199 #[Sl a b c,Sl p q r] t (fun X a0=>∃ z A B,X=Sl z A B/\K (.tuple #[Sl d e f,Sl z A B]) a0)))
def Fb(P:aG)(d:OA)(e f:Nat)(c:OA)(a b:Nat)(h:aK)(K:VP):Prop:=
 (0<=B7 (aC (a:Int) (2:Int))/\B7 (aC (a:Int) (2:Int))<=(b:Int))/\(0<=B7 (aC (a:Int) (2:Int))/\B7 (aC (a:Int) (2:Int))<=(a:Int))/\aE P 221 #[.slice (N3 c b 0 1) (((B7 (aC (a:Int) (2:Int))).toNat)-0) (b-0)] h (fun b2 u=>∃ w x y,b2=Sl w x y/\h.le u/\aE P 278 #[Sl d e f,I (B7 (aC (a:Int) (2:Int)))] u (fun b3 b4=>∃ i j k,b3=Sl i j k/\∃ (g:LP),(aE P 278 #[Sl d e f,I (B7 ((2:Int)*(B7 (aC (a:Int) (2:Int)))))] b4 (fun b5 b6=>∃ z A B,b5=Sl z A B/\aE P 196 #[Sl z A B,.slice (N3 c b ((B7 (aC (a:Int) (2:Int))).toNat) 1) (a-((B7 (aC (a:Int) (2:Int))).toNat)) (b-((B7 (aC (a:Int) (2:Int))).toNat))] b6 (fun b7 v=>∃ C,b7=I C/\Bd (C<0) (aE P 279 #[Sl i j k,.slice (N3 c b ((B7 (aC (a:Int) (2:Int))).toNat) 1) (a-((B7 (aC (a:Int) (2:Int))).toNat)) (b-((B7 (aC (a:Int) (2:Int))).toNat))] v (fun b8 b9=>∃ (o:OA) (p q:Nat) (r:OA) (s t:Nat),b8= .tuple #[Sl o p q,Sl r s t]/\g [.slice o p q,.slice r s t] b9))
 (wpH P (aI 89 1 #[(0,U 18446744073709551615)]) (fun c0 c1=>∃ D E F,c0=Sl D E F/\aE P 287 #[Sl D E F,I (B7 (aC (a:Int) (2:Int)))] c1 (fun c2 c3=>∃ G H L,c2=Sl G H L/\aE P 280 #[.slice (N3 c b ((B7 (aC (a:Int) (2:Int))).toNat) 1) (a-((B7 (aC (a:Int) (2:Int))).toNat)) (b-((B7 (aC (a:Int) (2:Int))).toNat)),Sl none 0 0,I (B7 (aC (a:Int) (2:Int)))] c3 (fun c4 c5=>∃ M N O,c4=Sl M N O/\aE P 199 #[Sl i j k,Sl M N O] c5 (fun c6 c7=>∃ Q R S,c6=Sl Q R S/\aE P 198 #[Sl Q R S,.slice (N3 c b ((B7 (aC (a:Int) (2:Int))).toNat) 1) (a-((B7 (aC (a:Int) (2:Int))).toNat)) (b-((B7 (aC (a:Int) (2:Int))).toNat))] c7 (fun c8 c9=>∃ T V W,c8=Sl T V W/\g [.slice G H L,.slice T V W] c9))))) v))))/\
 ∀ l m n X a0 a1 a2,g [.slice l m n,.slice X a0 a1] a2->aE P 197 #[Sl l m n,Sl w x y] a2 (fun d0 d1=>∃ a3 a4 a5,d0=Sl a3 a4 a5/\aE P 277 #[Sl d e f,I (B7 (aC (a:Int) (2:Int)))] d1 (fun d2 d3=>∃ a6 a7 a8,d2=Sl a6 a7 a8/\aE P 280 #[Sl X a0 a1,Sl a6 a7 a8,I (B7 (aC (a:Int) (2:Int)))] d3 (fun d4 d5=>∃ a9 b0 b1,d4=Sl a9 b0 b1/\R3 P c a b K l m n a3 a4 a5 a9 b0 b1 d5)))))
def Hf a b c d e f(hvc:Fb prog a b c d e f h K):aE prog 286 #[Sl a b c,Sl d e f] h K:=
 fnq func286 ⟨[(11,⟨[10,11],[],[N0,N0],⟨([10,11]++Lrg 58 10),[]⟩⟩)],[(9,⟨[10,11],[],[N0,N0],⟨([10,11]++Lrg 26 23),[]⟩⟩)],[(2,([0,1,2,4,5,6,3,7,8],[]))],[],[]⟩ [] [] hvc
def Gv(P:aG)(C:LP)(s:LN)(f:OA)(d g:Nat)(t:OA)(u v:Nat)(D:Int)(E:Int)(F:Int)(G:Int)(H:Bool)(L:aK)(M:aK):Prop:=
 ∃ (i:LP) (w:LN),i [.slice t u v] L/\
 ∀ b a c e,i [.slice b a c] e->Bd ((a:Int)<(d:Int)) (wpH P (aI 89 1 #[(0,U 0)]) (fun N O=>∃ z A B,N=Sl z A B/\wpH P (aL #[89,89] 89 #[Sl b a c,Sl z A B]) (fun Q x=>∃ j k l,Q=Sl j k l/\i [.slice j k l] x/\w [.slice j k l] x<w [.slice b a c] e) O) e)
 (aE P 232 #[.agg #[U D,U E,U F,U G,.bool H],.slice f d g,.slice b a c] e (fun R S=>R=T0/\aE P 221 #[Sl f d g] S (fun T V=>∃ m n o,T=Sl m n o/\aE P 221 #[Sl b a c] V (fun W y=>∃ p q r,W=Sl p q r/\C [.slice m n o,.slice p q r] y/\s [.slice m n o,.slice p q r] y<s [.slice f d g,.slice t u v] M))))
def Dn(P:aG)(K:VP)(M:OA)(N O:Nat)(Q:OA)(R S:Nat)(T:aK):Prop:=
 ∃ (i:LP) (j:LN),i [.slice M N O,.slice Q R S] T/\
 ∀ d e f b a g c,i [.slice d e f,.slice b a g] c->Bd ((a:Int)>1) (aE P 230 #[Sl d e f,Sl b a g] c (fun a0 x=>∃ (q:Int) (r:Int) (k:Int) (s:Int) (t:Bool),a0= .agg #[U q,U r,U k,U s,.bool t]/\Br (k==0) (aE P 231 #[Sl d e f,Sl b a g] x (fun a1 a2=>∃ (V:OA) (W X:Nat) (u:OA) (v w:Nat),a1= .tuple #[Sl V W X,Sl u v w]/\aE P 229 #[Sl u v w] a2 (fun a3 y=>∃ n o p,a3=Sl n o p/\i [.slice b a g,.slice n o p] y/\j [.slice b a g,.slice n o p] y<j [.slice d e f,.slice b a g] c)))
 (Gv P i j d e f b a g q r k s t x c)))
 (Br ((a:Int)==0) (K (Sl d e f) c)
 (∃ A,Ax b A (0:Int) a <| ∃ B,c.cell? (A.add (((0:Int)).toNat*1))=some (U B)/\∃ C,Ax b C (0:Int) a <| ∃ D,c.cell? (C.add (((0:Int)).toNat*1))=some (U D)/\aE P 235 #[Sl d e f,U D] c (fun a4 l=>∃ E,a4=U E/\c.le l/\aE P 234 #[U B,U E] l (fun a5 m=>∃ F,a5=U F/\l.le m/\aE P 233 #[U F] m (fun a6 z=>∃ G H L,a6=Sl G H L/\m.le z/\K (Sl G H L) z)))))
def Zs(P:aG)(a:OA)(b c:Nat)(d:OA)(e f:Nat)(h:aK)(K:VP):Prop:=
 ∃ (g:LP),(aE P 196 #[Sl a b c,Sl d e f] h (fun x n=>∃ o,x=I o/\Bd (o<0) (g [.slice d e f,.slice a b c] n)
 (g [.slice a b c,.slice d e f] n)))/\
 ∀ j k l p i q m,g [.slice j k l,.slice p i q] m->Br ((i:Int)==0) (K (Sl j k l) m)
 (aE P 229 #[Sl j k l] m (fun y z=>∃ r s t,y=Sl r s t/\aE P 229 #[Sl p i q] z (fun A B=>∃ u v w,A=Sl u v w/\Dn P K r s t u v w B)))
def Po a b c d e f(hvc:Zs prog a b c d e f h K):aE prog 186 #[Sl a b c,Sl d e f] h K:=
 fnq func186 ⟨[(6,⟨[5,6],[],[N0,N0],⟨([5,6,7,8,9]++Lrg 24 34),[7]⟩⟩),(11,⟨[6],[],[N0],⟨([6]++Lrg 42 8),[]⟩⟩)],[(3,⟨[0,1],[],[N0,N0],⟨[0,1,10,11,12,13,14,15],[]⟩⟩)],[],[],[]⟩ [7] [232] hvc
def Cc(P:aG)(K:VP)(m:Int)(o:Int)(p:Int)(q:Int)(r:aK):Prop:=
 ∃ (l:LP) (n:LN),l [U (bor .u64 (C1 (o*2^(min (C1 m).toNat 64))) (aH p (2^(min (C1 ((64:Int)-(C1 m))).toNat 64)))),U q,U 0,U 1,U 0,U 1,U 0,U 0,.bool false] r/\
 ∀ b a f d j e k c g i,l [U b,U a,U f,U d,U j,U e,U k,U c,.bool g] i->Bd (a>=d) (Bd ((C1 (b-a))>=(C1 (c+d))) (Bd (a=0) False
 (Bd (a=0) False
 (l [U a,U (aD b a),U (C1 (e+(C1 ((C1 (aC b a))*f)))),U (C1 (c+(C1 ((C1 (aC b a))*d)))),U e,U f,U c,U d,.bool (!g)] i/\n [U a,U (aD b a),U (C1 (e+(C1 ((C1 (aC b a))*f)))),U (C1 (c+(C1 ((C1 (aC b a))*d)))),U e,U f,U c,U d,.bool (!g)] i<n [U b,U a,U f,U d,U j,U e,U k,U c,.bool g] i)))
 (K (.agg #[U j,U e,U k,U c,.bool g]) i))
 (K (.agg #[U j,U e,U k,U c,.bool g]) i)
def Pm(P:aG)(f:OA)(a x:Nat)(g:OA)(d y:Nat)(h:aK)(K:VP):Prop:=
 ∃ i,Ax f i (B7 ((a:Int)-1)) a <| ∃ j,h.cell? (i.add ((B7 ((a:Int)-1)).toNat*1))=some (U j)/\aE P 258 #[U j] h (fun w c=>∃ b,w=I b/\∃ k,Ax f k (B7 ((a:Int)-1)) a <| ∃ l,c.cell? (k.add ((B7 ((a:Int)-1)).toNat*1))=some (U l)/\Bd (C1 b<0) False
 (∃ m,Ax f m (B7 ((a:Int)-2)) a <| ∃ n,c.cell? (m.add ((B7 ((a:Int)-2)).toNat*1))=some (U n)/\Bd (C1 ((64:Int)-(C1 b))<0) False
 (∃ (e:LP),(Br ((d:Int)==(a:Int)) (∃ o,Ax g o (B7 ((a:Int)-1)) d <| ∃ p,c.cell? (o.add ((B7 ((a:Int)-1)).toNat*1))=some (U p)/\Bd (C1 b<0) False
 (∃ q,Ax g q (B7 ((a:Int)-2)) d <| ∃ r,c.cell? (q.add ((B7 ((a:Int)-2)).toNat*1))=some (U r)/\Bd (C1 ((64:Int)-(C1 b))<0) False
 (e [U (bor .u64 (C1 (p*2^(min (C1 b).toNat 64))) (aH r (2^(min (C1 ((64:Int)-(C1 b))).toNat 64))))] c)))
 (Br ((d:Int)==(B7 ((a:Int)-1))) (∃ s,Ax g s (B7 ((a:Int)-2)) d <| ∃ t,c.cell? (s.add ((B7 ((a:Int)-2)).toNat*1))=some (U t)/\Bd (C1 ((64:Int)-(C1 b))<0) False
 (e [U (aH t (2^(min (C1 ((64:Int)-(C1 b))).toNat 64)))] c))
 (e [U 0] c)))/\
 ∀ u v,e [U u] v->Cc P K b l n u v)))
def Pk a b c d e f(hvc:Pm prog a b c d e f h K):aE prog 230 #[Sl a b c,Sl d e f] h K:=
 fnq func230 ⟨[(13,⟨[7,8,10,11],[(9,5)],[U 0,U 0,U 0,U 0,U 0,U 0,U 0,U 0,.bool false],⟨([7,8,10,11,12]++Lrg 72 46),[9]⟩⟩)],[(10,⟨[8],[],[U 0],⟨([8]++Lrg 38 33),[]⟩⟩)],[],[],[]⟩ [4,9] [] hvc
def T5(P:aG)(o:LP)(i:LN)(a:ByteArray)(d:OA)(c f:Nat)(A:Int)(B:Int)(p:aK)(C:aK):Prop:=
 ∃ (j:LP) (q:LN),j [U A,I 0] C/\
 ∀ g b e,j [U g,I b] e->Bd (b<(c:Int)) (∃ u,Ax d u b c <| ∃ v,e.cell? (u.add (b.toNat*1))=some (U v)/\aE P 261 #[U v,U B,U g] e (fun D E=>∃ (r:Int) (k:Int),D= .tuple #[U r,U k]/\∃ w,Ax d w b c<|wpH P (aF 230 (Pt (w.add (b.toNat*1))) (U r)) (fun _ s=>j [U k,I (B7 (b+1))] s/\q [U k,I (B7 (b+1))] s<q [U g,I b] e) E))
 (Br (g != 0) (wpH P (aI 89 1 #[(0,U g)]) (fun F G=>∃ x y z,F=Sl x y z/\wpH P (aL #[89,89] 89 #[Sl d c f,Sl x y z]) (fun H t=>∃ l m n,H=Sl l m n/\o [.string ((a).extract ((B7 ((aD (B7 (((aJ a:Nat):Int)-1)) (19:Int))+1)).toNat) ((a).size)),.slice l m n] t/\i [.string ((a).extract ((B7 ((aD (B7 (((aJ a:Nat):Int)-1)) (19:Int))+1)).toNat) ((a).size)),.slice l m n] t<i [.string a,.slice d c f] p) G) e)
 (o [.string ((a).extract ((B7 ((aD (B7 (((aJ a:Nat):Int)-1)) (19:Int))+1)).toNat) ((a).size)),.slice d c f] e/\i [.string ((a).extract ((B7 ((aD (B7 (((aJ a:Nat):Int)-1)) (19:Int))+1)).toNat) ((a).size)),.slice d c f] e<i [.string a,.slice d c f] p))
def Db(P:aG)(l:LP)(m:LN)(e:ByteArray)(n:OA)(o p:Nat)(q:OA)(i:Nat)(r:aK)(s:aK):Prop:=
 ∃ (f:LP) (j:LN),f [U 0,U 1,I 0] r/\
 ∀ c d a b,f [U c,U d,I a] b->Bd (a<(i:Int)) (∃ k,Ax q k a i <| ∃ g,b.cell? (k.add (a.toNat*1))=some (Y g)/\f [U (C1 ((C1 ((10:Int)*c))+(C1 (wu8 (g-48))))),U (C1 (d*(10:Int))),I (B7 (a+1))] b/\j [U (C1 ((C1 ((10:Int)*c))+(C1 (wu8 (g-48))))),U (C1 (d*(10:Int))),I (B7 (a+1))] b<j [U c,U d,I a] b)
 ((0<=B7 ((aD (B7 (((aJ e:Nat):Int)-1)) (19:Int))+1)/\B7 ((aD (B7 (((aJ e:Nat):Int)-1)) (19:Int))+1)<=(((e).size:Nat):Int))/\T5 P l m e n o p c d s b)
def Jo(P:aG)(j:ByteArray)(h:aK)(K:VP):Prop:=
 ∃ (c:LP) (k:LN),c [.string j,N0] h/\
 ∀ a d e f b,c [.string a,.slice d e f] b->Bd (((aJ a:Nat):Int)>0) ((0<=B7 ((aD (B7 (((aJ a:Nat):Int)-1)) (19:Int))+1)/\B7 ((aD (B7 (((aJ a:Nat):Int)-1)) (19:Int))+1)<=(((a).size:Nat):Int))/\wpH P (convert 9 166 (.string ((a).extract 0 ((B7 ((aD (B7 (((aJ a:Nat):Int)-1)) (19:Int))+1)).toNat)))) (fun l m=>∃ g i n,l=Sl g i n/\Db P c k a d e f g i m b) b)
 (K (Sl d e f) b)
def Pn(P:aG)(a:ByteArray)(h:aK)(K:VP):Prop:=
 Jo P a h K
def Jd a(hvc:Pn prog a h K):aE prog 257 #[.string a] h K:=
 fnq func257 { loops:=[(2,⟨[0,3],[],[.string ⟨#[]⟩,N0],⟨([0,3,4,5,6]++Lrg 8 58),[]⟩⟩),(6,⟨[5,6,25],[],[U 0,U 0,I 0],⟨([5,6,8]++Lrg 25 13),[]⟩⟩),(14,⟨[9,44],[],[U 0,I 0],⟨([9,10,11]++Lrg 44 16),[]⟩⟩)] } [] [] hvc
def V1(P:aG)(H:Nat)(L:LP)(p:LN)(q:OA)(r s:Nat)(j:Int)(M:Int)(N:aK)(O:aK):Prop:=
 ∃ (k:LP) (l:LN),k [.slice q r s,U M,I (B7 (j+(H:Int)))] N/\
 ∀ c b d f a e,k [.slice c b d,U f,I a] e->Br (f != 0) (Br (a==(b:Int)) (wpH P (aI 89 1 #[(0,U 0)]) (fun Q R=>∃ y z A,Q=Sl y z A/\wpH P (aL #[89,89] 89 #[Sl c b d,Sl y z A]) (fun S v=>∃ g i o,S=Sl g i o/\∃ B,Ax g B a i <| ∃ C,v.cell? (B.add (a.toNat*1))=some (U C)/\ECall P 274 #[U C,U f,U 0] v (fun T V=>∃ (t:Int) (m:Int),T= .tuple #[U t,U m]/\∃ D,Ax g D a i<|wpH P (aF 230 (Pt (D.add (a.toNat*1))) (U t)) (fun _ w=>k [.slice g i o,U m,I (B7 (a+1))] w/\l [.slice g i o,U m,I (B7 (a+1))] w<l [.slice c b d,U f,I a] e) V)) R) e)
 (∃ E,Ax c E a b <| ∃ F,e.cell? (E.add (a.toNat*1))=some (U F)/\ECall P 274 #[U F,U f,U 0] e (fun W X=>∃ (u:Int) (n:Int),W= .tuple #[U u,U n]/\∃ G,Ax c G a b<|wpH P (aF 230 (Pt (G.add (a.toNat*1))) (U u)) (fun _ x=>k [.slice c b d,U n,I (B7 (a+1))] x/\l [.slice c b d,U n,I (B7 (a+1))] x<l [.slice c b d,U f,I a] e) X)))
 (L [.slice c b d,I (B7 (j+1))] e/\p [.slice c b d,I (B7 (j+1))] e<p [.slice q r s,I j] O)
def Fe(P:aG)(K:VP)(m:OA)(b n:Nat)(o:OA)(i:Nat)(p:OA)(q r:Nat)(s:aK):Prop:=
 ∃ (f:LP) (t:LN),f [.slice p q r,I 0] s/\
 ∀ e g c a d,f [.slice e g c,I a] d->Bd (a<(i:Int)) (∃ j,Ax o j a i <| ∃ k,d.cell? (j.add (a.toNat*1))=some (U k)/\(0<=B7 (a+(b:Int))/\B7 (a+(b:Int))<=(c:Int))/\(0<=a/\a<=(((B7 (a+(b:Int))).toNat:Nat):Int))/\aE P 246 #[.slice (N3 e c (a.toNat) 1) (((B7 (a+(b:Int))).toNat)-(a.toNat)) (c-(a.toNat)),Sl m b n,U k] d (fun u v=>∃ l,u=U l/\V1 P b f t e g c a l v d))
 (K (Sl e g c) d)
def Mh(P:aG)(q:OA)(r s:Nat)(K:VP)(t:OA)(j u:Nat)(v:OA)(k:Nat)(w:aK):Prop:=
 ∃ (e:LP) (l:LN),e [.slice q r s] w/\
 ∀ b a c d,e [.slice b a c] d->Bd ((a:Int)<(B7 ((j:Int)+(k:Int)))) (wpH P (aI 89 1 #[(0,U 0)]) (fun x y=>∃ n o p,x=Sl n o p/\wpH P (aL #[89,89] 89 #[Sl b a c,Sl n o p]) (fun z m=>∃ f g i,z=Sl f g i/\e [.slice f g i] m/\l [.slice f g i] m<l [.slice b a c] d) y) d)
 (Fe P K t j u v k b a c d)
def Rw(P:aG)(C:OA)(D E:Nat)(m:OA)(b n:Nat)(o:OA)(c p:Nat)(h:aK)(K:VP):Prop:=
 ∃ (d:LP),(Bd ((b:Int)<(c:Int)) (d [.slice o c p,.slice m b n] h)
 (d [.slice m b n,.slice o c p] h))/\
 ∀ f g i j a k l,d [.slice f g i,.slice j a k] l->∃ (e:LP),(Bd ((a:Int)>=40) (aE P 197 #[Sl f g i,Sl j a k] l (fun F G=>∃ q r s,F=Sl q r s/\wpH P (aI 89 1 #[(0,U 1)]) (fun H L=>∃ t u v,H=Sl t u v/\e [.slice q r s,.slice t u v] L) G))
 (e [.slice f g i,.slice j a k] l))/\
 ∀ w x y z A M B,e [.slice w x y,.slice z A M] B->Mh P C D E K w x y z A B
def Jp a b c d e f g i j(hvc:Rw prog a b c d e f g i j h K):aE prog 255 #[Sl a b c,Sl d e f,Sl g i j] h K:=
 fnq func255 ⟨[(5,⟨[0],[],[N0],⟨([0]++Lrg 25 11),[]⟩⟩),(8,⟨[0,38],[],[N0,I 0],⟨([0,7,8,9,10]++Lrg 38 43),[]⟩⟩),(12,⟨[0,9,10],[],[N0,U 0,I 0],⟨([0,9,10]++Lrg 57 23),[]⟩⟩)],[(3,⟨[1,2],[],[N0,N0],⟨[1,2,11,12,13,14,15,16,17],[]⟩⟩),(5,⟨[1,2],[],[N0,N0],⟨[1,2,18,19,20,21,22,23,24],[]⟩⟩)],[],[],[]⟩ [] [246] hvc
def Pq(P:aG)(i:Int)(f:Int)(c:Int)(a:Int)(l:LP)(n:aK):Prop:=
 ∃ (j:LP) (m:LN),j [U (C1 (aC (bor .u64 (C1 (i*2^(min (C1 a).toNat 64))) (aH f (2^(min (C1 ((64:Int)-(C1 a))).toNat 64)))) (aH (C1 (c*2^(min (C1 a).toNat 64))) (2^(min ((32:Int)).toNat 64))))),U (C1 ((bor .u64 (C1 (i*2^(min (C1 a).toNat 64))) (aH f (2^(min (C1 ((64:Int)-(C1 a))).toNat 64))))-(C1 ((C1 (aC (bor .u64 (C1 (i*2^(min (C1 a).toNat 64))) (aH f (2^(min (C1 ((64:Int)-(C1 a))).toNat 64)))) (aH (C1 (c*2^(min (C1 a).toNat 64))) (2^(min ((32:Int)).toNat 64)))))*(aH (C1 (c*2^(min (C1 a).toNat 64))) (2^(min ((32:Int)).toNat 64)))))))] n/\
 ∀ b d e,j [U b,U d] e->∃ (k:LP),(Bd (b>=4294967296) (k [] e)
 (Bd ((C1 (b*(Mq .u64 (C1 (c*2^(min (C1 a).toNat 64))) (4294967295:Int))))>(C1 ((C1 ((4294967296:Int)*d))+(aH (C1 (f*2^(min (C1 a).toNat 64))) (2^(min ((32:Int)).toNat 64)))))) (k [] e)
 (l [U b] e)))/\
 ∀ g,k [] g->Bd ((C1 (d+(aH (C1 (c*2^(min (C1 a).toNat 64))) (2^(min ((32:Int)).toNat 64)))))>=4294967296) (l [U (C1 (b-1))] g)
 (j [U (C1 (b-1)),U (C1 (d+(aH (C1 (c*2^(min (C1 a).toNat 64))) (2^(min ((32:Int)).toNat 64)))))] g/\m [U (C1 (b-1)),U (C1 (d+(aH (C1 (c*2^(min (C1 a).toNat 64))) (2^(min ((32:Int)).toNat 64)))))] g<m [U b,U d] e)
def Pp(P:aG)(i:Int)(d:Int)(b:Int)(a:Int)(j:Int)(m:LP)(o:aK):Prop:=
 ∃ (k:LP) (n:LN),k [U (C1 ((C1 ((C1 ((C1 ((bor .u64 (C1 (i*2^(min (C1 a).toNat 64))) (aH d (2^(min (C1 ((64:Int)-(C1 a))).toNat 64))))*(4294967296:Int)))+(aH (C1 (d*2^(min (C1 a).toNat 64))) (2^(min ((32:Int)).toNat 64)))))-(C1 (j*(C1 (b*2^(min (C1 a).toNat 64)))))))-(C1 ((C1 (aC (C1 ((C1 ((C1 ((bor .u64 (C1 (i*2^(min (C1 a).toNat 64))) (aH d (2^(min (C1 ((64:Int)-(C1 a))).toNat 64))))*(4294967296:Int)))+(aH (C1 (d*2^(min (C1 a).toNat 64))) (2^(min ((32:Int)).toNat 64)))))-(C1 (j*(C1 (b*2^(min (C1 a).toNat 64))))))) (aH (C1 (b*2^(min (C1 a).toNat 64))) (2^(min ((32:Int)).toNat 64)))))*(aH (C1 (b*2^(min (C1 a).toNat 64))) (2^(min ((32:Int)).toNat 64))))))),U (C1 (aC (C1 ((C1 ((C1 ((bor .u64 (C1 (i*2^(min (C1 a).toNat 64))) (aH d (2^(min (C1 ((64:Int)-(C1 a))).toNat 64))))*(4294967296:Int)))+(aH (C1 (d*2^(min (C1 a).toNat 64))) (2^(min ((32:Int)).toNat 64)))))-(C1 (j*(C1 (b*2^(min (C1 a).toNat 64))))))) (aH (C1 (b*2^(min (C1 a).toNat 64))) (2^(min ((32:Int)).toNat 64)))))] o/\
 ∀ e c f,k [U e,U c] f->∃ (l:LP),(Bd (c>=4294967296) (l [] f)
 (Bd ((C1 (c*(Mq .u64 (C1 (b*2^(min (C1 a).toNat 64))) (4294967295:Int))))>(C1 ((C1 ((4294967296:Int)*e))+(Mq .u64 (C1 (d*2^(min (C1 a).toNat 64))) (4294967295:Int))))) (l [] f)
 (m [U c] f)))/\
 ∀ g,l [] g->Bd ((C1 (e+(aH (C1 (b*2^(min (C1 a).toNat 64))) (2^(min ((32:Int)).toNat 64)))))>=4294967296) (m [U (C1 (c-1))] g)
 (k [U (C1 (e+(aH (C1 (b*2^(min (C1 a).toNat 64))) (2^(min ((32:Int)).toNat 64))))),U (C1 (c-1))] g/\n [U (C1 (e+(aH (C1 (b*2^(min (C1 a).toNat 64))) (2^(min ((32:Int)).toNat 64))))),U (C1 (c-1))] g<n [U e,U c] f)
def Pr(P:aG)(f:Int)(b:Int)(c:Int)(K:VP)(a:Int)(d:Int)(e:Int)(g:aK):Prop:=
 Bd (C1 a<0) False
 (K (.tuple #[U (C1 ((C1 (d*(4294967296:Int)))+e)),U (aH (C1 ((C1 ((C1 ((C1 ((C1 ((C1 ((bor .u64 (C1 (f*2^(min (C1 a).toNat 64))) (aH b (2^(min (C1 ((64:Int)-(C1 a))).toNat 64))))*(4294967296:Int)))+(aH (C1 (b*2^(min (C1 a).toNat 64))) (2^(min ((32:Int)).toNat 64)))))-(C1 (d*(C1 (c*2^(min (C1 a).toNat 64)))))))*(4294967296:Int)))+(Mq .u64 (C1 (b*2^(min (C1 a).toNat 64))) (4294967295:Int))))-(C1 (e*(C1 (c*2^(min (C1 a).toNat 64))))))) (2^(min (C1 a).toNat 64)))]) g)
def Ps(P:aG)(c:Int)(d:Int)(a:Int)(K:VP)(b:Int)(e:Int)(j:aK):Prop:=
 Bd (aH (C1 (a*2^(min (C1 b).toNat 64))) (2^(min ((32:Int)).toNat 64))=0) False
 (∃ (f:LP),(Pp P c d a b e f j)/\
 ∀ g i,f [U g] i->Pr P c d a K b e g i)
def A2x(P:aG)(c:Int)(d:Int)(a:Int)(h:aK)(K:VP):Prop:=
 Br (a==0) (∃ (i:Value),h.cell? (⟨2,0,none⟩)=some (i)/\False)
 (Bd (a<=c) (∃ (j:Value),h.cell? (⟨3,0,none⟩)=some (j)/\False)
 (Br (c==0) (Bd (a=0) False
 (Bd (a=0) False
 (K (.tuple #[U (C1 (aC d a)),U (aD d a)]) h)))
 (aE P 258 #[U a] h (fun k l=>∃ b,k=I b/\Bd (C1 b<0) False
 (Bd (C1 b<0) False
 (Bd (C1 ((64:Int)-(C1 b))<0) False
 (Bd (C1 b<0) False
 (Bd (aH (C1 (a*2^(min (C1 b).toNat 64))) (2^(min ((32:Int)).toNat 64))=0) False
 (∃ (e:LP),(Pq P c d a b e l)/\
 ∀ f g,e [U f] g->Ps P c d a K b f g)))))))))
def A04 a b c(hvc:A2x prog a b c h K):aE prog 264 #[U a,U b,U c] h K:=
 fnq func264 ⟨[(17,⟨[15,16],[],[U 0,U 0],⟨([15,16]++Lrg 67 19),[]⟩⟩),(24,⟨[16,18],[],[U 0,U 0],⟨([16,18]++Lrg 102 19),[]⟩⟩)],[(18,⟨[],[],[],⟨(Lrg 67 12),[]⟩⟩),(21,⟨[15],[],[U 0],⟨([15,16]++Lrg 67 19),[]⟩⟩),(25,⟨[],[],[],⟨(Lrg 102 12),[]⟩⟩),(28,⟨[18],[],[U 0],⟨([16,18]++Lrg 102 19),[]⟩⟩)],[],[],[]⟩ [] [] hvc
def Hk(P:aG)(a:Int)(h:aK)(K:VP):Prop:=
 Br (a==0) (K (I 64) h)
 ((0<=aH (C1 ((Mq .u64 a (C1 (0-a)))*(285870213051353865:Int))) (2^(min ((58:Int)).toNat 64))/\aH (C1 ((Mq .u64 a (C1 (0-a)))*(285870213051353865:Int))) (2^(min ((58:Int)).toNat 64))<(64:Int))/\∃ b,h.cell? (Addr.add (⟨1,0,none⟩) ((aH (C1 ((Mq .u64 a (C1 (0-a)))*(285870213051353865:Int))) (2^(min ((58:Int)).toNat 64))).toNat*1))=some (Y b)/\K (I (B7 b)) h)
def Do a(hvc:Hk prog a h K):aE prog 263 #[U a] h K:=
 fnq func263 an0 [] [] hvc
def Ta:ByteArray:={ data:=#[0,1,2,2,3,3,3,3,4,4,4,4,4,4,4,4,5,5,5,5,5,5,5,5,5,5,5,5,5,5,5,5,6,6,6,6,6,6,6,6,6,6,6,6,6,6,6,6,6,6,6,6,6,6,6,6,6,6,6,6,6,6,6,6,7,7,7,7,7,7,7,7,7,7,7,7,7,7,7,7,7,7,7,7,7,7,7,7,7,7,7,7,7,7,7,7,7,7,7,7,7,7,7,7,7,7,7,7,7,7,7,7,7,7,7,7,7,7,7,7,7,7,7,7,7,7,7,7,8,8,8,8,8,8,8,8,8,8,8,8,8,8,8,8,8,8,8,8,8,8,8,8,8,8,8,8,8,8,8,8,8,8,8,8,8,8,8,8,8,8,8,8,8,8,8,8,8,8,8,8,8,8,8,8,8,8,8,8,8,8,8,8,8,8,8,8,8,8,8,8,8,8,8,8,8,8,8,8,8,8,8,8,8,8,8,8,8,8,8,8,8,8,8,8,8,8,8,8,8,8,8,8,8,8,8,8,8,8,8,8,8,8,8,8,8,8,8,8,8,8,8,8,8,8,8,8] }
def A7g(P:aG)(c:Int)(h:aK)(K:VP):Prop:=
 ∃ (d:LP),(Bd (c>=4294967296) (d [U (aH c (2^(min ((32:Int)).toNat 64))),I 32] h)
 (d [U c,I 0] h))/\
 ∀ a g i,d [U a,I g] i->∃ (e:LP),(Bd (a>=65536) (e [U (aH a (2^(min ((16:Int)).toNat 64))),I (B7 (g+16))] i)
 (e [U a,I g] i))/\
 ∀ b j k,e [U b,I j] k->∃ (f:LP),(Bd (b>=256) (f [U (aH b (2^(min ((8:Int)).toNat 64))),I (B7 (j+8))] k)
 (f [U b,I j] k))/\
 ∀ l n o,f [U l,I n] o->∃ (m:UInt8),(0<=wu8 l/\((Ta:ByteArray))[(wu8 l).toNat]? = some m)/\K (I (B7 (n+(B7 ((m.toNat:Nat):Int))))) o
def A03 a(hvc:A7g prog a h K):aE prog 266 #[U a] h K:=
 fnq func266 { cuts:=[(4,⟨[0,2],[],[U 0,I 0],⟨[0,2,3,4,5,6],[]⟩⟩),(7,⟨[0,2],[],[U 0,I 0],⟨[0,2,7,8,9,10,11,12],[]⟩⟩),(10,⟨[0,2],[],[U 0,I 0],⟨[0,2,13,14,15,16,17,18],[]⟩⟩)] } [] [] hvc
def Vn:A8x prog 274 (fun a=>do
 let (x,y,c)<-aP "Add64" a
 pure (aQ ((x+y+c)%aM) ((x+y+c)/aM))):=⟨f274,func274,by kernel_rfl,by kernel_rfl,by kernel_rfl,by kernel_rfl⟩
def Vm:A8x prog 262 (fun a=>do
 let (x,y,c)<-aP "Sub64" a
 pure (aQ ((x+aM-y-c)%aM) (if x<y+c then 1 else 0))):=⟨f262,func262,by kernel_rfl,by kernel_rfl,by kernel_rfl,by kernel_rfl⟩
end
section
set_option maxRecDepth 100000
variable {h:aK} {K:VP}
def G2:ByteArray:={ data:=#[48,48,48,49,48,50,48,51,48,52,48,53,48,54,48,55,48,56,48,57,49,48,49,49,49,50,49,51,49,52,49,53,49,54,49,55,49,56,49,57,50,48,50,49,50,50,50,51,50,52,50,53,50,54,50,55,50,56,50,57,51,48,51,49,51,50,51,51,51,52,51,53,51,54,51,55,51,56,51,57,52,48,52,49,52,50,52,51,52,52,52,53,52,54,52,55,52,56,52,57,53,48,53,49,53,50,53,51,53,52,53,53,53,54,53,55,53,56,53,57,54,48,54,49,54,50,54,51,54,52,54,53,54,54,54,55,54,56,54,57,55,48,55,49,55,50,55,51,55,52,55,53,55,54,55,55,55,56,55,57,56,48,56,49,56,50,56,51,56,52,56,53,56,54,56,55,56,56,56,57,57,48,57,49,57,50,57,51,57,52,57,53,57,54,57,55,57,56,57,57] }
def Az(P:aG)(c:OA)(d:Nat)(K:VP)(e:Int)(f:Int)(a:aK):Prop:=
 Bd (e>0) (∃ b,Ax c b (0:Int) d<|wpH P (aF 5 (Pt (b.add (((0:Int)).toNat*1))) (Y (wu8 (F6 ((48:Int)+f))))) (fun _ g=>K (T0) g) a)
 (K (T0) a)
def Ba(P:aG)(c:OA)(d:Nat)(K:VP)(a:Int)(b:Int)(f:aK):Prop:=
 ∃ (e:LP),(Bd (a>=2) (∃ (g:UInt8),(0<=F6 ((F6 ((aD b (100:Int))*(2:Int)))+1)/\((G2:ByteArray))[(F6 ((F6 ((aD b (100:Int))*(2:Int)))+1)).toNat]? = some g)/\∃ (i:UInt8),(0<=F6 ((aD b (100:Int))*(2:Int))/\((G2:ByteArray))[(F6 ((aD b (100:Int))*(2:Int))).toNat]? = some i)/\∃ j,Ax c j (B7 (a-1)) d<|wpH P (aF 5 (Pt (j.add ((B7 (a-1)).toNat*1))) (Y ((g.toNat:Nat):Int))) (fun _ o=>∃ k,Ax c k (B7 (a-2)) d<|wpH P (aF 5 (Pt (k.add ((B7 (a-2)).toNat*1))) (Y ((i.toNat:Nat):Int))) (fun _ p=>e [I (B7 (a-2)),U32 (F6 (aC b (100:Int)))] p) o) f)
 (e [I a,U32 b] f))/\
 ∀ l m n,e [I l,U32 m] n->Az P c d K l m n
def Ml(P:aG)(d:OA)(c a4:Nat)(O:Int)(h:aK)(K:VP):Prop:=
 ∃ (f:LP) (i:LN),f [U O,I (c:Int)] h/\
 ∀ b a e,f [U b,I a] e->Bd (a>=8) (∃ (j:UInt8),(0<=F6 ((F6 ((aD (aD (F6 (aD b (100000000:Int))) (10000:Int)) (100:Int))*(2:Int)))+1)/\((G2:ByteArray))[(F6 ((F6 ((aD (aD (F6 (aD b (100000000:Int))) (10000:Int)) (100:Int))*(2:Int)))+1)).toNat]? = some j)/\∃ (k:UInt8),(0<=F6 ((aD (aD (F6 (aD b (100000000:Int))) (10000:Int)) (100:Int))*(2:Int))/\((G2:ByteArray))[(F6 ((aD (aD (F6 (aD b (100000000:Int))) (10000:Int)) (100:Int))*(2:Int))).toNat]? = some k)/\∃ w,Ax d w (B7 (a-1)) c<|wpH P (aF 5 (Pt (w.add ((B7 (a-1)).toNat*1))) (Y ((j.toNat:Nat):Int))) (fun _ Q=>∃ x,Ax d x (B7 (a-2)) c<|wpH P (aF 5 (Pt (x.add ((B7 (a-2)).toNat*1))) (Y ((k.toNat:Nat):Int))) (fun _ R=>∃ (l:UInt8),(0<=F6 ((F6 ((F6 (aC (aD (F6 (aD b (100000000:Int))) (10000:Int)) (100:Int)))*(2:Int)))+1)/\((G2:ByteArray))[(F6 ((F6 ((F6 (aC (aD (F6 (aD b (100000000:Int))) (10000:Int)) (100:Int)))*(2:Int)))+1)).toNat]? = some l)/\∃ (m:UInt8),(0<=F6 ((F6 (aC (aD (F6 (aD b (100000000:Int))) (10000:Int)) (100:Int)))*(2:Int))/\((G2:ByteArray))[(F6 ((F6 (aC (aD (F6 (aD b (100000000:Int))) (10000:Int)) (100:Int)))*(2:Int))).toNat]? = some m)/\∃ y,Ax d y (B7 (a-3)) c<|wpH P (aF 5 (Pt (y.add ((B7 (a-3)).toNat*1))) (Y ((l.toNat:Nat):Int))) (fun _ S=>∃ z,Ax d z (B7 (a-4)) c<|wpH P (aF 5 (Pt (z.add ((B7 (a-4)).toNat*1))) (Y ((m.toNat:Nat):Int))) (fun _ T=>∃ (n:UInt8),(0<=F6 ((F6 ((aD (F6 (aC (F6 (aD b (100000000:Int))) (10000:Int))) (100:Int))*(2:Int)))+1)/\((G2:ByteArray))[(F6 ((F6 ((aD (F6 (aC (F6 (aD b (100000000:Int))) (10000:Int))) (100:Int))*(2:Int)))+1)).toNat]? = some n)/\∃ (o:UInt8),(0<=F6 ((aD (F6 (aC (F6 (aD b (100000000:Int))) (10000:Int))) (100:Int))*(2:Int))/\((G2:ByteArray))[(F6 ((aD (F6 (aC (F6 (aD b (100000000:Int))) (10000:Int))) (100:Int))*(2:Int))).toNat]? = some o)/\∃ A,Ax d A (B7 (a-5)) c<|wpH P (aF 5 (Pt (A.add ((B7 (a-5)).toNat*1))) (Y ((n.toNat:Nat):Int))) (fun _ V=>∃ B,Ax d B (B7 (a-6)) c<|wpH P (aF 5 (Pt (B.add ((B7 (a-6)).toNat*1))) (Y ((o.toNat:Nat):Int))) (fun _ W=>∃ (p:UInt8),(0<=F6 ((F6 ((F6 (aC (F6 (aC (F6 (aD b (100000000:Int))) (10000:Int))) (100:Int)))*(2:Int)))+1)/\((G2:ByteArray))[(F6 ((F6 ((F6 (aC (F6 (aC (F6 (aD b (100000000:Int))) (10000:Int))) (100:Int)))*(2:Int)))+1)).toNat]? = some p)/\∃ (q:UInt8),(0<=F6 ((F6 (aC (F6 (aC (F6 (aD b (100000000:Int))) (10000:Int))) (100:Int)))*(2:Int))/\((G2:ByteArray))[(F6 ((F6 (aC (F6 (aC (F6 (aD b (100000000:Int))) (10000:Int))) (100:Int)))*(2:Int))).toNat]? = some q)/\∃ C,Ax d C (B7 (a-7)) c<|wpH P (aF 5 (Pt (C.add ((B7 (a-7)).toNat*1))) (Y ((p.toNat:Nat):Int))) (fun _ X=>∃ D,Ax d D (B7 (a-8)) c<|wpH P (aF 5 (Pt (D.add ((B7 (a-8)).toNat*1))) (Y ((q.toNat:Nat):Int))) (fun _ v=>f [U (C1 (aC b (100000000:Int))),I (B7 (a-8))] v/\i [U (C1 (aC b (100000000:Int))),I (B7 (a-8))] v<i [U b,I a] e) X) W) V) T) S) R) Q) e)
 (∃ (g:LP),(Bd (a>=4) (∃ (r:UInt8),(0<=F6 ((F6 ((aD (aD (F6 b) (10000:Int)) (100:Int))*(2:Int)))+1)/\((G2:ByteArray))[(F6 ((F6 ((aD (aD (F6 b) (10000:Int)) (100:Int))*(2:Int)))+1)).toNat]? = some r)/\∃ (s:UInt8),(0<=F6 ((aD (aD (F6 b) (10000:Int)) (100:Int))*(2:Int))/\((G2:ByteArray))[(F6 ((aD (aD (F6 b) (10000:Int)) (100:Int))*(2:Int))).toNat]? = some s)/\∃ E,Ax d E (B7 (a-1)) c<|wpH P (aF 5 (Pt (E.add ((B7 (a-1)).toNat*1))) (Y ((r.toNat:Nat):Int))) (fun _ a0=>∃ F,Ax d F (B7 (a-2)) c<|wpH P (aF 5 (Pt (F.add ((B7 (a-2)).toNat*1))) (Y ((s.toNat:Nat):Int))) (fun _ a1=>∃ (t:UInt8),(0<=F6 ((F6 ((F6 (aC (aD (F6 b) (10000:Int)) (100:Int)))*(2:Int)))+1)/\((G2:ByteArray))[(F6 ((F6 ((F6 (aC (aD (F6 b) (10000:Int)) (100:Int)))*(2:Int)))+1)).toNat]? = some t)/\∃ (u:UInt8),(0<=F6 ((F6 (aC (aD (F6 b) (10000:Int)) (100:Int)))*(2:Int))/\((G2:ByteArray))[(F6 ((F6 (aC (aD (F6 b) (10000:Int)) (100:Int)))*(2:Int))).toNat]? = some u)/\∃ G,Ax d G (B7 (a-3)) c<|wpH P (aF 5 (Pt (G.add ((B7 (a-3)).toNat*1))) (Y ((t.toNat:Nat):Int))) (fun _ a2=>∃ H,Ax d H (B7 (a-4)) c<|wpH P (aF 5 (Pt (H.add ((B7 (a-4)).toNat*1))) (Y ((u.toNat:Nat):Int))) (fun _ a3=>g [I (B7 (a-4)),U32 (F6 (aC (F6 b) (10000:Int)))] a3) a2) a1) a0) e)
 (g [I a,U32 (F6 b)] e))/\
 ∀ L M N,g [I L,U32 M] N->Ba P d c K L M N)
def Hj a b c d(hvc:Ml prog a b c d h K):aE prog 241 #[Sl a b c,U d] h K:=
 fnq func241 ⟨[(1,⟨[1,4],[],[U 0,I 0],⟨([1]++Lrg 4 8++Lrg 19 77),[]⟩⟩)],[(20,⟨[4,12],[],[I 0,.int .u32 0],⟨([4,12,13,14,15]++Lrg 98 40),[]⟩⟩),(25,⟨[4,12],[],[I 0,.int .u32 0],⟨([4,12,16]++Lrg 138 22),[]⟩⟩)],[],[],[]⟩ [] [] hvc
def Ll:ByteArray:={ data:=#[48,49,50,51,52,53,54,55,56,57,97,98,99,100,101,102,103,104,105,106,107,108,109,110,111,112,113,114,115,116,117,118,119,120,121,122] }
def A7d(P:aG)(a:Int)(h:aK)(K:VP):Prop:=
 Bd (a<10) ((0<=B7 (a+1)/\B7 (a+1)<=((((Ll:ByteArray)).size:Nat):Int))/\(0<=a/\a<=(((B7 (a+1)).toNat:Nat):Int))/\K (.string (((Ll:ByteArray)).extract (a.toNat) ((B7 (a+1)).toNat))) h)
 ((0<=B7 ((B7 (a*(2:Int)))+2)/\B7 ((B7 (a*(2:Int)))+2)<=((((G2:ByteArray)).size:Nat):Int))/\(0<=B7 (a*(2:Int))/\B7 (a*(2:Int))<=(((B7 ((B7 (a*(2:Int)))+2)).toNat:Nat):Int))/\K (.string (((G2:ByteArray)).extract ((B7 (a*(2:Int))).toNat) ((B7 ((B7 (a*(2:Int)))+2)).toNat))) h)
def Zw a(hvc:A7d prog a h K):aE prog 239 #[I a] h K:=
 fnq func239 an0 [] [] hvc
end
section
set_option maxRecDepth 100000
variable {h:aK} {K:VP}
def A9f(P:aG)(b:Bool)(c:OA)(d e:Nat)(i:Bool)(j:OA)(k l:Nat)(h:aK)(K:VP):Prop:=
 aE P 122 #[Zv b c d e] h (fun f g=>∃ a,f=I a/\K (I a) g)
def A9g(P:aG)(f:Bool)(g:OA)(i j:Nat)(k:Bool)(l:OA)(m n:Nat)(h:aK)(K:VP):Prop:=
 aE P 125 #[Zv f g i j] h (fun o a=>∃ b c d e,o=Zv b c d e/\h.le a/\K (Qv b c d e k l m n) a)
def A4q a b c d e f g i(hvc:A9g prog a b c d e f g i h K):aE prog 140 #[Qv a b c d e f g i] h K:=
 fnq func140 { orders:=[(1,([0,1,3,4,2,5,6],[]))] } [1,2] [] hvc
def A9h(P:aG)(a:Bool)(b:OA)(c d:Nat)(t:Bool)(u:OA)(v w:Nat)(e:Bool)(f:OA)(g i:Nat)(x:Bool)(y:OA)(z A:Nat)(h:aK)(K:VP):Prop:=
 ∃ (k:LP),(aE P 121 #[Zv a b c d] h (fun d5 a2=>∃ (B:Bool),d5= .bool B/\Br B (k [.bool true] a2)
 (aE P 121 #[Zv e f g i] a2 (fun d6 d7=>∃ (C:Bool),d6= .bool C/\k [.bool C] d7))))/\
 ∀ a5 s,k [.bool a5] s->Br a5 (K (Qv false none 0 0 false none 0 0) s)
 (∃ (l:LP),(aE P 121 #[Zv t u v w] s (fun d8 a3=>∃ (D:Bool),d8= .bool D/\Br D (aE P 121 #[Zv x y z A] a3 (fun d9 e0=>∃ (E:Bool),d9= .bool E/\l [.bool E] e0))
 (l [.bool false] a3)))/\
 ∀ a6 j,l [.bool a6] j->Br a6 (aE P 137 #[Zv a b c d,Zv e f g i] j (fun e1 e2=>∃ a7 a8 a9 b0,e1=Zv a7 a8 a9 b0/\K (Qv a7 a8 a9 b0 false none 0 0) e2))
 (aE P 124 #[Qv e f g i x y z A] j (fun e3 m=>∃ b1 b2 b3 b4,e3=Zv b1 b2 b3 b4/\j.le m/\aE P 147 #[Zv a b c d,Zv b1 b2 b3 b4] m (fun e4 n=>∃ (F:Bool) (G:OA) (H L:Nat) (M:Bool) (N:OA) (O Q:Nat),e4= .tuple #[Zv F G H L,Zv M N O Q]/\m.le n/\aE P 124 #[Qv a b c d t u v w] n (fun e5 o=>∃ b5 b6 b7 b8,e5=Zv b5 b6 b7 b8/\n.le o/\aE P 147 #[Zv e f g i,Zv b5 b6 b7 b8] o (fun e6 p=>∃ (R:Bool) (S:OA) (T V:Nat) (W:Bool) (X:OA) (a0 a1:Nat),e6= .tuple #[Zv R S T V,Zv W X a0 a1]/\o.le p/\aE P 137 #[Zv F G H L,Zv R S T V] p (fun e7 q=>∃ b9 c0 c1 c2,e7=Zv b9 c0 c1 c2/\p.le q/\aE P 137 #[Zv W X a0 a1,Zv M N O Q] q (fun e8 r=>∃ c3 c4 c5 c6,e8=Zv c3 c4 c5 c6/\q.le r/\aE P 123 #[Zv b9 c0 c1 c2,Zv c3 c4 c5 c6] r (fun e9 a4=>∃ c7 c8 c9 d0 d1 d2 d3 d4,e9=Qv c7 c8 c9 d0 d1 d2 d3 d4/\r.le a4/\K (Qv c7 c8 c9 d0 d1 d2 d3 d4) a4)))))))))
def A4r a b c d e f g i j k l m n o p q(hvc:A9h prog a b c d e f g i j k l m n o p q h K):aE prog 79 #[Qv a b c d e f g i,Qv j k l m n o p q] h K:=
 fnq func79 ⟨[],[(2,⟨[16],[],[.bool false],⟨(Lrg 9 8),[]⟩⟩),(4,⟨[25],[],[.bool false],⟨(Lrg 18 8),[]⟩⟩)],[(5,([0,1,2,8,9,3,4,5,6,7,10,11],[])),(6,([0,1,2,8,9,3,4,5,6,7,10,11],[])),(7,([0,1,3,4,2,5,6,7],[]))],[],[]⟩ [2,3,4,5,6,7,8] [] hvc
def A9i(P:aG)(t:Bool)(u:OA)(v w:Nat)(x:Bool)(y:OA)(z A:Nat)(B:Bool)(C:OA)(D E:Nat)(F:Bool)(G:OA)(H L:Nat)(h:aK)(K:VP):Prop:=
 aE P 62 #[Qv B C D E F G H L] h (fun M a=>∃ c d e f g i j k,M=Qv c d e f g i j k/\h.le a/\aE P 79 #[Qv t u v w x y z A,Qv c d e f g i j k] a (fun N b=>∃ l m n o p q r s,N=Qv l m n o p q r s/\a.le b/\K (Qv l m n o p q r s) b))
def A4s a b c d e f g i j k l m n o p q(hvc:A9i prog a b c d e f g i j k l m n o p q h K):aE prog 67 #[Qv a b c d e f g i,Qv j k l m n o p q] h K:=
 fnq func67 an0 [2,3,4] [] hvc
end
section
set_option maxRecDepth 100000
variable {h:aK} {K:VP}
def Ce(P:aG)(E:LP)(o:LN)(d:OA)(b p:Nat)(q:OA)(r s:Nat)(t:aK):Prop:=
 ∃ (f:LP) (u:LN),f [U 0,I (B7 ((b:Int)-1))] t/\
 ∀ e a c,f [U e,I a] c->Bd (a>=0) (∃ y,Ax d y a b <| ∃ z,c.cell? (y.add (a.toNat*1))=some (U z)/\aE P 264 #[U e,U z,U 10000000000000000000] c (fun F G=>∃ (v:Int) (g:Int),F= .tuple #[U v,U g]/\∃ A,Ax d A a b<|wpH P (aF 230 (Pt (A.add (a.toNat*1))) (U v)) (fun _ w=>f [U g,I (B7 (a-1))] w/\u [U g,I (B7 (a-1))] w<u [U e,I a] c) G))
 (aE P 221 #[Sl d b p] c (fun H L=>∃ i j k,H=Sl i j k/\wpH P (aI 89 1 #[(0,U e)]) (fun M N=>∃ B C D,M=Sl B C D/\wpH P (aL #[89,89] 89 #[Sl q r s,Sl B C D]) (fun O x=>∃ l m n,O=Sl l m n/\E [.slice i j k,.slice l m n] x/\o [.slice i j k,.slice l m n] x<o [.slice d b p,.slice q r s] t) N) L))
def Aw(P:aG)(D:LP)(p:LN)(q:OA)(r s:Nat)(E:Bool)(f:Int)(F:OA)(t G:Nat)(H:Int)(L:aK)(M:aK):Prop:=
 ∃ (g:LP) (u:LN),g [.slice q r s,I 0] M/\
 ∀ b c d a e,g [.slice b c d,I a] e->Bd (a<(B7 (H-(t:Int)))) (wpH P (aI 166 1 #[(0,Y (48:Int))]) (fun N O=>∃ x y z,N=Sl x y z/\wpH P (aL #[166,166] 166 #[Sl b c d,Sl x y z]) (fun Q w=>∃ i j k,Q=Sl i j k/\g [.slice i j k,I (B7 (a+1))] w/\u [.slice i j k,I (B7 (a+1))] w<u [.slice b c d,I a] e) O) e)
 (∃ (v:LP),(wpH P (aL #[166,166] 166 #[Sl b c d,Sl F t G]) (fun R S=>∃ A B C,R=Sl A B C/\v [.slice A B C] S) e)/\
 ∀ l m n o,v [.slice l m n] o->D [.slice l m n,.bool false,I (B7 (f-1))] o/\p [.slice l m n,.bool false,I (B7 (f-1))] o<p [.slice q r s,.bool E,I f] L)
def Au(P:aG)(p:Int)(K:VP)(q:OA)(r s:Nat)(t:aK):Prop:=
 ∃ (f:LP) (k:LN),f [.slice q r s,I 0] t/\
 ∀ b c d a e,f [.slice b c d,I a] e->Bd (a<p) (wpH P (aI 166 1 #[(0,Y (48:Int))]) (fun u v=>∃ m n o,u=Sl m n o/\wpH P (aL #[166,166] 166 #[Sl b c d,Sl m n o]) (fun w l=>∃ g i j,w=Sl g i j/\f [.slice g i j,I (B7 (a+1))] l/\k [.slice g i j,I (B7 (a+1))] l<k [.slice b c d,I a] e) v) e)
 (K (Sl b c d) e)
def Ay(P:aG)(t:OA)(u v:Nat)(i:Int)(K:VP)(w:OA)(l:Nat)(x:Addr)(y:aK):Prop:=
 ∃ (j:LP) (z:LN),j [.slice t u v,.bool true,I (B7 ((l:Int)-1))] y/\
 ∀ d e f g a b,j [.slice d e f,.bool g,I a] b->Bd (a>=0) ((0<=(0:Int)/\(0:Int)<=(20:Int))/\∃ n,Ax w n a l <| ∃ o,b.cell? (n.add (a.toNat*1))=some (U o)/\aE P 237 #[.slice (N3 (some x) 20 0 1) ((((0:Int)).toNat)-0) (20-0),U o,I 10] b (fun A m=>∃ p c q,A=Sl p c q/\∃ (k:LP),(Br g (k [I (if (B7 (i-(B7 ((19:Int)*a))))>(c:Int) then B7 (i-(B7 ((19:Int)*a))) else (c:Int))] m)
 (k [I 19] m))/\
 ∀ r s,k [I r] s->Aw P j z d e f g a p c q r b s))
 (Br g (Au P i K d e f b)
 (K (Sl d e f) b))
def Je(P:aG)(k:OA)(l m:Nat)(n:Int)(K:VP)(o:OA)(p q:Nat)(r:aK):Prop:=
 ∃ (a:LP) (s:LN),a [.slice o p q,N0] r/\
 ∀ g b i c d j e,a [.slice g b i,.slice c d j] e->Bd ((b:Int)>0) (Ce P a s g b i c d j e)
 (wpH P (Instr.alloc 311 true (T0)) (fun t u=>∃ (f:Addr),t=Pt f/\Ay P k l m n K c d f u) e)
def Mi(P:aG)(d:OA)(e f:Nat)(g:OA)(i j:Nat)(k:Int)(h:aK)(K:VP):Prop:=
 aE P 229 #[Sl g i j] h (fun l m=>∃ a b c,l=Sl a b c/\Je P d e f k K a b c m)
def Hi a b c d e f g(hvc:Mi prog a b c d e f g h K):aE prog 267 #[Sl a b c,Sl d e f,I g] h K:=
 fnq func267 ⟨[(3,⟨[7,8],[],[N0,N0],⟨([7,8,9,10]++Lrg 18 28),[]⟩⟩),(6,⟨[9,10],[],[U 0,I 0],⟨([9,10]++Lrg 24 16),[]⟩⟩),(14,⟨[0,12,13],[],[N0,.bool false,I 0],⟨([0,12,13,14,15]++Lrg 49 31),[]⟩⟩),(21,⟨[0,71],[],[N0,I 0],⟨[0,71,72,73,74,75,76],[]⟩⟩),(28,⟨[0,82],[],[N0,I 0],⟨[0,82,83,84,85,86,87],[]⟩⟩)],[(20,⟨[15],[],[I 0],⟨([15]++Lrg 59 8),[]⟩⟩),(25,⟨[0],[],[N0],⟨[0,77,78,79],[]⟩⟩)],[],[],[]⟩ [] [237] hvc
end
