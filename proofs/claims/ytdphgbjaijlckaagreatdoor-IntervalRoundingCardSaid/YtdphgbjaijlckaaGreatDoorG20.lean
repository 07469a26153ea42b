/- A part. -/
import Derived.Test.YtdphgbjaijlckaaGreatDoorG18
open Go.Proofs.Tryz
set_option linter.all false
open _root_.Go.Addr renaming add->dL
open _root_.Go.Builtin renaming copy_->bW,append_->cK
open _root_.ByteArray renaming size->bM
open _root_.Go.Extern.MathBitsCarry renaming m64->aN,pair->cF,three->cW
open _root_.Go.Instr renaming storeAt->aS,buildSlice->bZ,makeSlice->cJ
open Int renaming toNat_natCast->aC,mul_le_mul_of_nonneg_right->aD,tdiv->aF,mul_le_mul_of_nonneg_left->aG,mul_ediv_add_emod->aJ,tmod->aL,emod_lt_of_pos->aM,le_of_lt->aO,mul_nonneg->aR,emod_nonneg->aT,fdiv->aU,pow_add->aW,mul_comm->aZ,tdiv_eq_ediv_of_nonneg->bC,ediv_lt_of_lt_mul->bD,mul_lt_mul_of_pos_right->bE,pow_succ->bG,ediv_eq_zero_of_lt->bH,pow_pos->bJ,ediv_nonneg->bK,mul_lt_mul_of_pos_left->bL,zero_add->cE,natCast_mul->cI,mul_assoc->cO,mul_add->cQ,tmod_eq_emod_of_nonneg->cT,mul_le_mul->cU,lt_of_le_of_lt->cV,ediv_le_self->dB,ediv_ediv_of_nonneg->dC,zero_mul->dD,add_mul_ediv_right->dE,add_mul_ediv_left->dK,mul_ediv_cancel->dM,mul_zero->dQ,emod_eq_of_lt->dR,add_zero->dS,add_comm->dT,add_mul_emod_self_right->eA,zero_emod->eD,pow_zero->eO
open List renaming replicate->aE,getElem?_cons_zero->aI,length_take->aP,getElem?_cons_succ->aQ,take_of_length_le->aX,drop_of_length_le->aY,length_append->bB,drop_replicate->bI,length_replicate->bO,append_nil->bV,take_length->bX,length_drop->bY,eq_nil_of_length_eq_zero->cA,append_assoc->cC,take_replicate->cG,nil_append->cH,drop_drop->cL,replicate_append_replicate->cN,drop_append_of_le_length->cP,take_left'->cR,length_set->dG,take_append_drop->dI,getElem?_eq_none->dJ,getD->dV,drop_append->dX,length_map->dY,drop_left'->dZ,drop_zero->eB,drop_eq_getElem_cons->eC
open List.cons renaming injEq->dH
open Nat renaming min_eq_left->aK,le_refl->bF,sub_zero->bN,gcd->cS,pow_pos->cX,one_mul->cY,add_mul->cZ,div_add_mod->dF,mul_assoc->dN,min_eq_right->dU,mul_div_cancel_left->eE,add_sub_cancel_left->eF,zero_mul->eG,mul_comm->eI,le_mul_of_pos_left->eJ,gcd_sub_self_right->eK,add_zero->eM
open Nat.Coprime renaming gcd_mul_left_cancel_right->cD
open _root_.Go.Value renaming int->bU
open _root_.Go.Value.slice renaming injEq->dP
open _root_.Go renaming Program->aV,Addr->bS,TypeId->cM,IntKind->dA,Value->dO
open _root_.Go.Proofs.YtdphgbjaijlckaaGreatDoor renaming FCall->aH,Heap->bA
namespace Go.Proofs.YtdphgbjaijlckaaGreatDoor
set_option maxRecDepth 20000
open Go
section
set_option maxRecDepth 100000
variable {h:bA} {K:VP}
def J9:SliceT prog 89 230 (U 0) 1 8:=⟨by kernel_rfl,by kernel_rfl,rfl,dc⟩
def E3:prog.cellsOf 230=1/\(prog.info? 230).isSome=true:=⟨by kernel_rfl,by kernel_rfl⟩
def Qf:SliceT prog 266 89 (N0) 1 24:=⟨by kernel_rfl,by kernel_rfl,rfl,dc⟩
def W6(P:aV)(K:VP)(s:OA)(b t:Nat)(u:OA)(g:Nat)(e:OA)(i d:Nat)(v:bA):Prop:=
 ∃ (f:LP) (j:LN),f [I 0] v/\
 ∀ a c,f [I a] c->Bd (a<(g:Int)) (∃ l,Ax u l a g <| ∃ m,c.cell? (l.add (a.toNat*1))=some (U m)/\(0<=B6 (a+(b:Int))/\B6 (a+(b:Int))<=(d:Int))/\(0<=a/\a<=(((B6 (a+(b:Int))).toNat:Nat):Int))/\aH P 246 #[.slice (Q7 e d (a.toNat) 1) (((B6 (a+(b:Int))).toNat)-(a.toNat)) (d-(a.toNat)),Sl s b t,U m] c (fun w x=>∃ n,w=U n/\∃ o,Ax e o (B6 (a+(b:Int))) i<|wpH P (aS 230 (Pt (o.add ((B6 (a+(b:Int))).toNat*1))) (U n)) (fun _ k=>f [I (B6 (a+1))] k/\j [I (B6 (a+1))] k<j [I a] c) x))
 (aH P 221 #[Sl e i d] c (fun y z=>∃ p q r,y=Sl p q r/\K (Sl p q r) z))
def U2(P:aV)(D:OA)(m E:Nat)(F:OA)(n G:Nat)(h:bA)(K:VP):Prop:=
 ∃ (o:LP),(Bd ((m:Int)<(n:Int)) (o [.slice F n G,.slice D m E] h)
 (o [.slice D m E,.slice F n G] h))/\
 ∀ f a c g b d k,o [.slice f a c,.slice g b d] k->Br ((b:Int)==0) (K (Sl none 0 0) k)
 (∃ (p:LP),(Br ((b:Int)==1) (∃ L,Ax g L (0:Int) b <| ∃ M,k.cell? (L.add (((0:Int)).toNat*1))=some (U M)/\p [.bool (M==1)] k)
 (p [.bool false] k))/\
 ∀ N j,p [.bool N] j->Br N (K (Sl f a c) j)
 (Bd ((b:Int)<40) (wpH P (cJ 89 (I (B6 ((a:Int)+(b:Int)))) (I (B6 ((a:Int)+(b:Int))))) (fun b6 b7=>∃ O Q R,b6=Sl O Q R/\W6 P K f a c g b O Q R b7) j)
 (Bd ((b:Int)<=(B6 (aF (B6 ((a:Int)+1)) (2:Int)))) (aH P 247 #[Sl f a c,Sl g b d] j (fun b8 b9=>∃ S T V,b8=Sl S T V/\K (Sl S T V) b9))
 ((0<=B6 (aF (B6 ((a:Int)+1)) (2:Int))/\B6 (aF (B6 ((a:Int)+1)) (2:Int))<=(c:Int))/\(0<=B6 (aF (B6 ((a:Int)+1)) (2:Int))/\B6 (aF (B6 ((a:Int)+1)) (2:Int))<=(a:Int))/\aH P 221 #[.slice (Q7 f c 0 1) (((B6 (aF (B6 ((a:Int)+1)) (2:Int))).toNat)-0) (c-0)] j (fun c0 q=>∃ r s t,c0=Sl r s t/\j.le q/\(0<=B6 (aF (B6 ((a:Int)+1)) (2:Int))/\B6 (aF (B6 ((a:Int)+1)) (2:Int))<=(d:Int))/\(0<=B6 (aF (B6 ((a:Int)+1)) (2:Int))/\B6 (aF (B6 ((a:Int)+1)) (2:Int))<=(b:Int))/\aH P 221 #[.slice (Q7 g d 0 1) (((B6 (aF (B6 ((a:Int)+1)) (2:Int))).toNat)-0) (d-0)] q (fun c1 H=>∃ u v w,c1=Sl u v w/\q.le H/\aH P 197 #[Sl r s t,Sl u v w] H (fun c2 c3=>∃ x y z,c2=Sl x y z/\aH P 197 #[.slice (Q7 f c ((B6 (aF (B6 ((a:Int)+1)) (2:Int))).toNat) 1) (a-((B6 (aF (B6 ((a:Int)+1)) (2:Int))).toNat)) (c-((B6 (aF (B6 ((a:Int)+1)) (2:Int))).toNat)),.slice (Q7 g d ((B6 (aF (B6 ((a:Int)+1)) (2:Int))).toNat) 1) (b-((B6 (aF (B6 ((a:Int)+1)) (2:Int))).toNat)) (d-((B6 (aF (B6 ((a:Int)+1)) (2:Int))).toNat))] c3 (fun c4 c5=>∃ A B C,c4=Sl A B C/\aH P 198 #[Sl r s t,.slice (Q7 f c ((B6 (aF (B6 ((a:Int)+1)) (2:Int))).toNat) 1) (a-((B6 (aF (B6 ((a:Int)+1)) (2:Int))).toNat)) (c-((B6 (aF (B6 ((a:Int)+1)) (2:Int))).toNat))] c5 (fun c6 c7=>∃ W X a0,c6=Sl W X a0/\aH P 198 #[Sl u v w,.slice (Q7 g d ((B6 (aF (B6 ((a:Int)+1)) (2:Int))).toNat) 1) (b-((B6 (aF (B6 ((a:Int)+1)) (2:Int))).toNat)) (d-((B6 (aF (B6 ((a:Int)+1)) (2:Int))).toNat))] c7 (fun c8 c9=>∃ a1 a2 a3,c8=Sl a1 a2 a3/\aH P 197 #[Sl W X a0,Sl a1 a2 a3] c9 (fun d0 d1=>∃ a4 a5 a6,d0=Sl a4 a5 a6/\aH P 199 #[Sl a4 a5 a6,Sl x y z] d1 (fun d2 d3=>∃ a7 a8 a9,d2=Sl a7 a8 a9/\aH P 199 #[Sl a7 a8 a9,Sl A B C] d3 (fun d4 d5=>∃ b0 b1 b2,d4=Sl b0 b1 b2/\wpH P (cJ 89 (I (B6 ((a:Int)+(b:Int)))) (I (B6 ((a:Int)+(b:Int))))) (fun d6 d7=>∃ l e i,d6=Sl l e i/\wpH P (bW #[89,89] 3 #[Sl l e i,Sl x y z]) (fun d8 d9=>∃ e6,d8=I e6/\(0<=B6 ((2:Int)*(B6 (aF (B6 ((a:Int)+1)) (2:Int))))/\B6 ((2:Int)*(B6 (aF (B6 ((a:Int)+1)) (2:Int))))<=(e:Int))/\wpH P (bW #[89,89] 3 #[.slice (Q7 l i ((B6 ((2:Int)*(B6 (aF (B6 ((a:Int)+1)) (2:Int))))).toNat) 1) (e-((B6 ((2:Int)*(B6 (aF (B6 ((a:Int)+1)) (2:Int))))).toNat)) (i-((B6 ((2:Int)*(B6 (aF (B6 ((a:Int)+1)) (2:Int))))).toNat)),Sl A B C]) (fun e0 e1=>∃ e7,e0=I e7/\(0<=B6 (aF (B6 ((a:Int)+1)) (2:Int))/\B6 (aF (B6 ((a:Int)+1)) (2:Int))<=(e:Int))/\aH P 248 #[.slice (Q7 l i ((B6 (aF (B6 ((a:Int)+1)) (2:Int))).toNat) 1) (e-((B6 (aF (B6 ((a:Int)+1)) (2:Int))).toNat)) (i-((B6 (aF (B6 ((a:Int)+1)) (2:Int))).toNat)),Sl b0 b1 b2] e1 (fun e2 e3=>e2=T0/\aH P 221 #[Sl l e i] e3 (fun e4 e5=>∃ b3 b4 b5,e4=Sl b3 b4 b5/\K (Sl b3 b4 b5) e5))) d9) d7) d5)))))))))))))
def W5 a b c d e f(hvc:U2 prog a b c d e f h K):aH prog 197 #[Sl a b c,Sl d e f] h K:=
 fnq func197 ⟨[(11,⟨[55],[],[I 0],⟨([7,8]++Lrg 55 22),[]⟩⟩)],[(3,⟨[0,1],[],[N0,N0],⟨[0,1,17,18,19,20,21,22,23],[]⟩⟩),(7,⟨[32],[],[.bool false],⟨(Lrg 32 10),[]⟩⟩)],[(18,([0,1,2,4,5,6,3,7,8],[])),(19,([0,1,2,4,5,6,3,7,8],[]))],[],[]⟩ [] [246,248] hvc
def Z7(P:aV)(d:Nat)(w:OA)(k:Nat)(e:OA)(f:Nat)(b:Int)(x:Int)(y:LP)(z:bA):Prop:=
 ∃ (i:LP) (l:LN),i [U 0,I 0] z/\
 ∀ g a c,i [U g,I a] c->Bd (a<(k:Int)) (∃ o,Ax w o a k <| ∃ p,c.cell? (o.add (a.toNat*1))=some (U p)/\∃ q,Ax e q (B6 (b+a)) f <| ∃ r,c.cell? (q.add ((B6 (b+a)).toNat*1))=some (U r)/\ECall P 274 #[U r,U p,U g] c (fun A B=>∃ (m:Int) (j:Int),A= .tuple #[U m,U j]/\∃ s,Ax e s (B6 (b+a)) f<|wpH P (aS 230 (Pt (s.add ((B6 (b+a)).toNat*1))) (U m)) (fun _ n=>i [U j,I (B6 (a+1))] n/\l [U j,I (B6 (a+1))] n<l [U g,I a] c) B))
 (∃ t,Ax e t (B6 (b+(d:Int))) f <| ∃ u,c.cell? (t.add ((B6 (b+(d:Int))).toNat*1))=some (U u)/\∃ v,Ax e v (B6 (b+(d:Int))) f<|wpH P (aS 230 (Pt (v.add ((B6 (b+(d:Int))).toNat*1))) (U (B9 (u+g)))) (fun _ C=>y [U (B9 (x-1))] C) c)
def Z8(P:aV)(b:Nat)(K:VP)(L:Int)(g:OA)(i n:Nat)(d:OA)(e c:Nat)(o:OA)(p M:Nat)(N:LP)(q:LN)(a:Int)(j:bA):Prop:=
 Bd (a>=0) ((0<=B6 ((B6 (a+(b:Int)))+1)/\B6 ((B6 (a+(b:Int)))+1)<=(c:Int))/\(0<=a/\a<=(((B6 ((B6 (a+(b:Int)))+1)).toNat:Nat):Int))/\aH P 283 #[.slice (Q7 d c (a.toNat) 1) (((B6 ((B6 (a+(b:Int)))+1)).toNat)-(a.toNat)) (c-(a.toNat)),Sl g i n] j (fun O Q=>∃ f,O=U f/\(0<=B6 (a+(b:Int))/\B6 (a+(b:Int))<=(c:Int))/\(0<=a/\a<=(((B6 (a+(b:Int))).toNat:Nat):Int))/\aH P 284 #[.slice (Q7 d c (a.toNat) 1) (((B6 (a+(b:Int))).toNat)-(a.toNat)) (c-(a.toNat)),Sl g i n,U f] Q (fun R r=>∃ l,R=U l/\∃ u,Ax d u (B6 (a+(b:Int))) e <| ∃ m,r.cell? (u.add ((B6 (a+(b:Int))).toNat*1))=some (U m)/\∃ v,Ax d v (B6 (a+(b:Int))) e<|wpH P (aS 230 (Pt (v.add ((B6 (a+(b:Int))).toNat*1))) (U (B9 (m-l)))) (fun _ s=>∃ (k:LP),(Bd (m<l) (Z7 P b g i d e a f k s)
 (k [U f] s))/\
 ∀ w x,k [U w] x->∃ y,Ax o y a p<|wpH P (aS 230 (Pt (y.add (a.toNat*1))) (U w)) (fun _ t=>N [I (B6 (a-1))] t/\q [I (B6 (a-1))] t<q [I a] j) x) r)))
 (aH P 221 #[Sl o p M] j (fun S T=>∃ z A B,S=Sl z A B/\aH P 221 #[Sl d e c] T (fun V W=>∃ C D E,V=Sl C D E/\aH P 281 #[Sl C D E,U (B9 L)] W (fun X a0=>∃ F G H,X=Sl F G H/\K (.tuple #[Sl z A B,Sl F G H]) a0))))
def Q3(P:aV)(e b:Nat)(K:VP)(f:Int)(g:OA)(i j:Nat)(k:OA)(l m:Nat)(n:OA)(o p:Nat)(q:bA):Prop:=
 ∃ (a:LP) (r:LN),a [I (B6 ((e:Int)-(b:Int)))] q/\
 ∀ c d,a [I c] d->Z8 P b K f g i j k l m n o p a r c d
def Ee(P:aV)(d:OA)(b e:Nat)(f:OA)(a l:Nat)(h:bA)(K:VP):Prop:=
 aH P 196 #[Sl d b e,Sl f a l] h (fun H c=>∃ q,H=I q/\Bd (q<0) (K (.tuple #[Sl none 0 0,Sl d b e]) c)
 (Br ((a:Int)==1) (∃ r,Ax f r (0:Int) a <| ∃ s,c.cell? (r.add (((0:Int)).toNat*1))=some (U s)/\aH P 282 #[Sl d b e,U s] c (fun L M=>∃ (m:OA) (n o:Nat) (p:Int),L= .tuple #[Sl m n o,U p]/\aH P 233 #[U p] M (fun N O=>∃ t u v,N=Sl t u v/\K (.tuple #[Sl m n o,Sl t u v]) O)))
 (∃ w,Ax f w (B6 ((a:Int)-1)) a <| ∃ x,c.cell? (w.add ((B6 ((a:Int)-1)).toNat*1))=some (U x)/\aH P 258 #[U x] c (fun Q R=>∃ g,Q=I g/\aH P 276 #[Sl f a l,U (B9 g)] R (fun S T=>∃ y z A,S=Sl y z A/\wpH P (cJ 89 (I (B6 ((b:Int)+1))) (I (B6 ((b:Int)+1)))) (fun V W=>∃ i j k,V=Sl i j k/\aH P 276 #[Sl d b e,U (B9 g)] W (fun X a0=>∃ B C D,X=Sl B C D/\wpH P (bW #[89,89] 3 #[Sl i j k,Sl B C D]) (fun a1 a2=>∃ a5,a1=I a5/\wpH P (cJ 89 (I (B6 ((B6 ((b:Int)-(a:Int)))+1))) (I (B6 ((B6 ((b:Int)-(a:Int)))+1)))) (fun a3 a4=>∃ E F G,a3=Sl E F G/\Q3 P b a K g y z A i j k E F G a4) a2) a0)) T)))))
def Gg a b c d e f(hvc:Ee prog a b c d e f h K):aH prog 260 #[Sl a b c,Sl d e f] h K:=
 fnq func260 ⟨[(13,⟨[13],[],[I 0],⟨([13,14,15,16,17,18,19]++Lrg 72 79),[]⟩⟩),(23,⟨[17,115],[],[U 0,I 0],⟨([17,18,19]++Lrg 115 23),[]⟩⟩)],[(28,⟨[14],[],[U 0],⟨([14,17,18,19]++Lrg 108 39),[]⟩⟩)],[],[],[]⟩ [] [284] hvc
def Q4(P:aV)(c:Nat)(K:VP)(a:Int)(N:Int)(O:OA)(Q R:Nat)(S:OA)(o T:Nat)(p:OA)(i j:Nat)(V:bA):Prop:=
 ∃ (k:LP) (q:LN),k [N0,I (B6 ((B6 (aF (B6 ((o:Int)-1)) (B6 ((B6 (aF (B6 ((B6 ((c:Int)+a))-1)) a))*a))))*(B6 ((B6 (aF (B6 ((B6 ((c:Int)+a))-1)) a))*a))))] V/\
 ∀ d e f b g,k [.slice d e f,I b] g->Bd (b>=0) (aH P 278 #[Sl S o T,I b] g (fun W X=>∃ v w x,W=Sl v w x/\aH P 277 #[Sl v w x,I (B6 ((B6 (aF (B6 ((B6 ((c:Int)+a))-1)) a))*a))] X (fun a0 a1=>∃ y z A,a0=Sl y z A/\aH P 280 #[Sl d e f,Sl y z A,I (B6 ((B6 (aF (B6 ((B6 ((c:Int)+a))-1)) a))*a))] a1 (fun a2 a3=>∃ B C D,a2=Sl B C D/\aH P 279 #[Sl B C D,Sl O Q R] a3 (fun a4 a5=>∃ (r:OA) (s t:Nat) (l:OA) (m n:Nat),a4= .tuple #[Sl r s t,Sl l m n]/\(0<=b/\b<=(i:Int))/\wpH P (bW #[89,89] 3 #[.slice (Q7 p j (b.toNat) 1) (i-(b.toNat)) (j-(b.toNat)),Sl r s t]) (fun a6 u=>∃ b1,a6=I b1/\k [.slice l m n,I (B6 (b-(B6 ((B6 (aF (B6 ((B6 ((c:Int)+a))-1)) a))*a))))] u/\q [.slice l m n,I (B6 (b-(B6 ((B6 (aF (B6 ((B6 ((c:Int)+a))-1)) a))*a))))] u<q [.slice d e f,I b] g) a5)))))
 (aH P 221 #[Sl p i j] g (fun a7 a8=>∃ E F G,a7=Sl E F G/\aH P 281 #[Sl d e f,U (B9 (B6 ((B6 ((64:Int)*(B6 ((B6 ((B6 (aF (B6 ((B6 ((c:Int)+a))-1)) a))*a))-(c:Int)))))+N)))] a8 (fun a9 b0=>∃ H L M,a9=Sl H L M/\K (.tuple #[Sl E F G,Sl H L M]) b0)))
def Bj(P:aV)(t:OA)(u v:Nat)(g:OA)(b w:Nat)(h:bA)(K:VP):Prop:=
 ∃ (f:LP) (i:LN),f [I 1] h/\
 ∀ a c,f [I a] c->Bd (a=0) False
 (Bd ((B6 (aF (B6 ((B6 ((b:Int)+a))-1)) a))>=80) (f [I (B6 (a*(2:Int)))] c/\i [I (B6 (a*(2:Int)))] c<i [I a] c)
 (Bd (a=0) False
 (∃ j,Ax g j (B6 ((b:Int)-1)) b <| ∃ k,c.cell? (j.add ((B6 ((b:Int)-1)).toNat*1))=some (U k)/\aH P 258 #[U k] c (fun x y=>∃ e,x=I e/\aH P 276 #[Sl g b w,U (B9 (B6 ((B6 ((64:Int)*(B6 ((B6 ((B6 (aF (B6 ((B6 ((b:Int)+a))-1)) a))*a))-(b:Int)))))+e)))] y (fun z A=>∃ l m n,z=Sl l m n/\aH P 276 #[Sl t u v,U (B9 (B6 ((B6 ((64:Int)*(B6 ((B6 ((B6 (aF (B6 ((B6 ((b:Int)+a))-1)) a))*a))-(b:Int)))))+e)))] A (fun B C=>∃ o d p,B=Sl o d p/\wpH P (cJ 89 (I (B6 ((d:Int)+(B6 ((B6 (aF (B6 ((B6 ((b:Int)+a))-1)) a))*a))))) (I (B6 ((d:Int)+(B6 ((B6 (aF (B6 ((B6 ((b:Int)+a))-1)) a))*a)))))) (fun D E=>∃ q r s,D=Sl q r s/\Bd (B6 ((B6 (aF (B6 ((B6 ((b:Int)+a))-1)) a))*a)=0) False
 (Q4 P b K a e l m n o d p q r s E)) C))))))
def Ef(P:aV)(a:OA)(b c:Nat)(d:OA)(e f:Nat)(h:bA)(K:VP):Prop:=
 Bj P a b c d e f h K
def Gh a b c d e f(hvc:Ef prog a b c d e f h K):aH prog 259 #[Sl a b c,Sl d e f] h K:=
 fnq func259 { loops:=[(3,⟨[7],[],[I 0],⟨([7]++Lrg 20 9),[]⟩⟩),(11,⟨[13,14],[],[N0,I 0],⟨([13,14,15,16,17]++Lrg 67 25),[]⟩⟩)] } [] [] hvc
def Q1(P:aV)(C:OA)(D E:Nat)(K:VP)(F:OA)(G H:Nat)(p:OA)(q r:Nat)(L:OA)(M N:Nat)(O:bA):Prop:=
 ∃ (g:LP) (s:LN),g [.slice F G H,.slice L M N] O/\
 ∀ d e f a b c i,g [.slice d e f,.slice a b c] i->aH P 196 #[Sl a b c,Sl p q r] i (fun Q t=>∃ v,Q=I v/\Bd (v<0) (aH P 198 #[Sl a b c,Sl C D E] t (fun R S=>∃ j k l,R=Sl j k l/\wpH P (bZ 89 1 #[(0,U 1)]) (fun T V=>∃ w x y,T=Sl w x y/\aH P 199 #[Sl d e f,Sl w x y] V (fun W u=>∃ m n o,W=Sl m n o/\g [.slice m n o,.slice j k l] u/\s [.slice m n o,.slice j k l] u<s [.slice d e f,.slice a b c] i)) S))
 (aH P 199 #[Sl a b c,Sl p q r] t (fun X a0=>∃ z A B,X=Sl z A B/\K (.tuple #[Sl d e f,Sl z A B]) a0)))
def Ed(P:aV)(d:OA)(e f:Nat)(c:OA)(a b:Nat)(h:bA)(K:VP):Prop:=
 (0<=B6 (aF (a:Int) (2:Int))/\B6 (aF (a:Int) (2:Int))<=(b:Int))/\(0<=B6 (aF (a:Int) (2:Int))/\B6 (aF (a:Int) (2:Int))<=(a:Int))/\aH P 221 #[.slice (Q7 c b 0 1) (((B6 (aF (a:Int) (2:Int))).toNat)-0) (b-0)] h (fun b2 u=>∃ w x y,b2=Sl w x y/\h.le u/\aH P 278 #[Sl d e f,I (B6 (aF (a:Int) (2:Int)))] u (fun b3 b4=>∃ i j k,b3=Sl i j k/\∃ (g:LP),(aH P 278 #[Sl d e f,I (B6 ((2:Int)*(B6 (aF (a:Int) (2:Int)))))] b4 (fun b5 b6=>∃ z A B,b5=Sl z A B/\aH P 196 #[Sl z A B,.slice (Q7 c b ((B6 (aF (a:Int) (2:Int))).toNat) 1) (a-((B6 (aF (a:Int) (2:Int))).toNat)) (b-((B6 (aF (a:Int) (2:Int))).toNat))] b6 (fun b7 v=>∃ C,b7=I C/\Bd (C<0) (aH P 279 #[Sl i j k,.slice (Q7 c b ((B6 (aF (a:Int) (2:Int))).toNat) 1) (a-((B6 (aF (a:Int) (2:Int))).toNat)) (b-((B6 (aF (a:Int) (2:Int))).toNat))] v (fun b8 b9=>∃ (o:OA) (p q:Nat) (r:OA) (s t:Nat),b8= .tuple #[Sl o p q,Sl r s t]/\g [.slice o p q,.slice r s t] b9))
 (wpH P (bZ 89 1 #[(0,U 18446744073709551615)]) (fun c0 c1=>∃ D E F,c0=Sl D E F/\aH P 287 #[Sl D E F,I (B6 (aF (a:Int) (2:Int)))] c1 (fun c2 c3=>∃ G H L,c2=Sl G H L/\aH P 280 #[.slice (Q7 c b ((B6 (aF (a:Int) (2:Int))).toNat) 1) (a-((B6 (aF (a:Int) (2:Int))).toNat)) (b-((B6 (aF (a:Int) (2:Int))).toNat)),Sl none 0 0,I (B6 (aF (a:Int) (2:Int)))] c3 (fun c4 c5=>∃ M N O,c4=Sl M N O/\aH P 199 #[Sl i j k,Sl M N O] c5 (fun c6 c7=>∃ Q R S,c6=Sl Q R S/\aH P 198 #[Sl Q R S,.slice (Q7 c b ((B6 (aF (a:Int) (2:Int))).toNat) 1) (a-((B6 (aF (a:Int) (2:Int))).toNat)) (b-((B6 (aF (a:Int) (2:Int))).toNat))] c7 (fun c8 c9=>∃ T V W,c8=Sl T V W/\g [.slice G H L,.slice T V W] c9))))) v))))/\
 ∀ l m n X a0 a1 a2,g [.slice l m n,.slice X a0 a1] a2->aH P 197 #[Sl l m n,Sl w x y] a2 (fun d0 d1=>∃ a3 a4 a5,d0=Sl a3 a4 a5/\aH P 277 #[Sl d e f,I (B6 (aF (a:Int) (2:Int)))] d1 (fun d2 d3=>∃ a6 a7 a8,d2=Sl a6 a7 a8/\aH P 280 #[Sl X a0 a1,Sl a6 a7 a8,I (B6 (aF (a:Int) (2:Int)))] d3 (fun d4 d5=>∃ a9 b0 b1,d4=Sl a9 b0 b1/\Q1 P c a b K l m n a3 a4 a5 a9 b0 b1 d5)))))
def Gf a b c d e f(hvc:Ed prog a b c d e f h K):aH prog 286 #[Sl a b c,Sl d e f] h K:=
 fnq func286 ⟨[(11,⟨[10,11],[],[N0,N0],⟨([10,11]++Lrg 58 10),[]⟩⟩)],[(9,⟨[10,11],[],[N0,N0],⟨([10,11]++Lrg 26 23),[]⟩⟩)],[(2,([0,1,2,4,5,6,3,7,8],[]))],[],[]⟩ [] [] hvc
def Ga(P:aV)(C:LP)(s:LN)(f:OA)(d g:Nat)(t:OA)(u v:Nat)(D:Int)(E:Int)(F:Int)(G:Int)(H:Bool)(L:bA)(M:bA):Prop:=
 ∃ (i:LP) (w:LN),i [.slice t u v] L/\
 ∀ b a c e,i [.slice b a c] e->Bd ((a:Int)<(d:Int)) (wpH P (bZ 89 1 #[(0,U 0)]) (fun N O=>∃ z A B,N=Sl z A B/\wpH P (cK #[89,89] 89 #[Sl b a c,Sl z A B]) (fun Q x=>∃ j k l,Q=Sl j k l/\i [.slice j k l] x/\w [.slice j k l] x<w [.slice b a c] e) O) e)
 (aH P 232 #[.agg #[U D,U E,U F,U G,.bool H],.slice f d g,.slice b a c] e (fun R S=>R=T0/\aH P 221 #[Sl f d g] S (fun T V=>∃ m n o,T=Sl m n o/\aH P 221 #[Sl b a c] V (fun W y=>∃ p q r,W=Sl p q r/\C [.slice m n o,.slice p q r] y/\s [.slice m n o,.slice p q r] y<s [.slice f d g,.slice t u v] M))))
def Cs(P:aV)(K:VP)(M:OA)(N O:Nat)(Q:OA)(R S:Nat)(T:bA):Prop:=
 ∃ (i:LP) (j:LN),i [.slice M N O,.slice Q R S] T/\
 ∀ d e f b a g c,i [.slice d e f,.slice b a g] c->Bd ((a:Int)>1) (aH P 230 #[Sl d e f,Sl b a g] c (fun a0 x=>∃ (q:Int) (r:Int) (k:Int) (s:Int) (t:Bool),a0= .agg #[U q,U r,U k,U s,.bool t]/\Br (k==0) (aH P 231 #[Sl d e f,Sl b a g] x (fun a1 a2=>∃ (V:OA) (W X:Nat) (u:OA) (v w:Nat),a1= .tuple #[Sl V W X,Sl u v w]/\aH P 229 #[Sl u v w] a2 (fun a3 y=>∃ n o p,a3=Sl n o p/\i [.slice b a g,.slice n o p] y/\j [.slice b a g,.slice n o p] y<j [.slice d e f,.slice b a g] c)))
 (Ga P i j d e f b a g q r k s t x c)))
 (Br ((a:Int)==0) (K (Sl d e f) c)
 (∃ A,Ax b A (0:Int) a <| ∃ B,c.cell? (A.add (((0:Int)).toNat*1))=some (U B)/\∃ C,Ax b C (0:Int) a <| ∃ D,c.cell? (C.add (((0:Int)).toNat*1))=some (U D)/\aH P 235 #[Sl d e f,U D] c (fun a4 l=>∃ E,a4=U E/\c.le l/\aH P 234 #[U B,U E] l (fun a5 m=>∃ F,a5=U F/\l.le m/\aH P 233 #[U F] m (fun a6 z=>∃ G H L,a6=Sl G H L/\m.le z/\K (Sl G H L) z)))))
def Wk(P:aV)(a:OA)(b c:Nat)(d:OA)(e f:Nat)(h:bA)(K:VP):Prop:=
 ∃ (g:LP),(aH P 196 #[Sl a b c,Sl d e f] h (fun x n=>∃ o,x=I o/\Bd (o<0) (g [.slice d e f,.slice a b c] n)
 (g [.slice a b c,.slice d e f] n)))/\
 ∀ j k l p i q m,g [.slice j k l,.slice p i q] m->Br ((i:Int)==0) (K (Sl j k l) m)
 (aH P 229 #[Sl j k l] m (fun y z=>∃ r s t,y=Sl r s t/\aH P 229 #[Sl p i q] z (fun A B=>∃ u v w,A=Sl u v w/\Cs P K r s t u v w B)))
def Ny a b c d e f(hvc:Wk prog a b c d e f h K):aH prog 186 #[Sl a b c,Sl d e f] h K:=
 fnq func186 ⟨[(6,⟨[5,6],[],[N0,N0],⟨([5,6,7,8,9]++Lrg 24 34),[7]⟩⟩),(11,⟨[6],[],[N0],⟨([6]++Lrg 42 8),[]⟩⟩)],[(3,⟨[0,1],[],[N0,N0],⟨[0,1,10,11,12,13,14,15],[]⟩⟩)],[],[],[]⟩ [7] [232] hvc
def Bi(P:aV)(K:VP)(m:Int)(o:Int)(p:Int)(q:Int)(r:bA):Prop:=
 ∃ (l:LP) (n:LN),l [U (bor .u64 (B9 (o*2^(min (B9 m).toNat 64))) (aU p (2^(min (B9 ((64:Int)-(B9 m))).toNat 64)))),U q,U 0,U 1,U 0,U 1,U 0,U 0,.bool false] r/\
 ∀ b a f d j e k c g i,l [U b,U a,U f,U d,U j,U e,U k,U c,.bool g] i->Bd (a>=d) (Bd ((B9 (b-a))>=(B9 (c+d))) (Bd (a=0) False
 (Bd (a=0) False
 (l [U a,U (aL b a),U (B9 (e+(B9 ((B9 (aF b a))*f)))),U (B9 (c+(B9 ((B9 (aF b a))*d)))),U e,U f,U c,U d,.bool (!g)] i/\n [U a,U (aL b a),U (B9 (e+(B9 ((B9 (aF b a))*f)))),U (B9 (c+(B9 ((B9 (aF b a))*d)))),U e,U f,U c,U d,.bool (!g)] i<n [U b,U a,U f,U d,U j,U e,U k,U c,.bool g] i)))
 (K (.agg #[U j,U e,U k,U c,.bool g]) i))
 (K (.agg #[U j,U e,U k,U c,.bool g]) i)
def Nw(P:aV)(f:OA)(a x:Nat)(g:OA)(d y:Nat)(h:bA)(K:VP):Prop:=
 ∃ i,Ax f i (B6 ((a:Int)-1)) a <| ∃ j,h.cell? (i.add ((B6 ((a:Int)-1)).toNat*1))=some (U j)/\aH P 258 #[U j] h (fun w c=>∃ b,w=I b/\∃ k,Ax f k (B6 ((a:Int)-1)) a <| ∃ l,c.cell? (k.add ((B6 ((a:Int)-1)).toNat*1))=some (U l)/\Bd (B9 b<0) False
 (∃ m,Ax f m (B6 ((a:Int)-2)) a <| ∃ n,c.cell? (m.add ((B6 ((a:Int)-2)).toNat*1))=some (U n)/\Bd (B9 ((64:Int)-(B9 b))<0) False
 (∃ (e:LP),(Br ((d:Int)==(a:Int)) (∃ o,Ax g o (B6 ((a:Int)-1)) d <| ∃ p,c.cell? (o.add ((B6 ((a:Int)-1)).toNat*1))=some (U p)/\Bd (B9 b<0) False
 (∃ q,Ax g q (B6 ((a:Int)-2)) d <| ∃ r,c.cell? (q.add ((B6 ((a:Int)-2)).toNat*1))=some (U r)/\Bd (B9 ((64:Int)-(B9 b))<0) False
 (e [U (bor .u64 (B9 (p*2^(min (B9 b).toNat 64))) (aU r (2^(min (B9 ((64:Int)-(B9 b))).toNat 64))))] c)))
 (Br ((d:Int)==(B6 ((a:Int)-1))) (∃ s,Ax g s (B6 ((a:Int)-2)) d <| ∃ t,c.cell? (s.add ((B6 ((a:Int)-2)).toNat*1))=some (U t)/\Bd (B9 ((64:Int)-(B9 b))<0) False
 (e [U (aU t (2^(min (B9 ((64:Int)-(B9 b))).toNat 64)))] c))
 (e [U 0] c)))/\
 ∀ u v,e [U u] v->Bi P K b l n u v)))
def Nv a b c d e f(hvc:Nw prog a b c d e f h K):aH prog 230 #[Sl a b c,Sl d e f] h K:=
 fnq func230 ⟨[(13,⟨[7,8,10,11],[(9,5)],[U 0,U 0,U 0,U 0,U 0,U 0,U 0,U 0,.bool false],⟨([7,8,10,11,12]++Lrg 72 46),[9]⟩⟩)],[(10,⟨[8],[],[U 0],⟨([8]++Lrg 38 33),[]⟩⟩)],[],[],[]⟩ [4,9] [] hvc
def S5(P:aV)(o:LP)(i:LN)(a:ByteArray)(d:OA)(c f:Nat)(A:Int)(B:Int)(p:bA)(C:bA):Prop:=
 ∃ (j:LP) (q:LN),j [U A,I 0] C/\
 ∀ g b e,j [U g,I b] e->Bd (b<(c:Int)) (∃ u,Ax d u b c <| ∃ v,e.cell? (u.add (b.toNat*1))=some (U v)/\aH P 261 #[U v,U B,U g] e (fun D E=>∃ (r:Int) (k:Int),D= .tuple #[U r,U k]/\∃ w,Ax d w b c<|wpH P (aS 230 (Pt (w.add (b.toNat*1))) (U r)) (fun _ s=>j [U k,I (B6 (b+1))] s/\q [U k,I (B6 (b+1))] s<q [U g,I b] e) E))
 (Br (g != 0) (wpH P (bZ 89 1 #[(0,U g)]) (fun F G=>∃ x y z,F=Sl x y z/\wpH P (cK #[89,89] 89 #[Sl d c f,Sl x y z]) (fun H t=>∃ l m n,H=Sl l m n/\o [.string ((a).extract ((B6 ((aL (B6 (((bM a:Nat):Int)-1)) (19:Int))+1)).toNat) ((a).size)),.slice l m n] t/\i [.string ((a).extract ((B6 ((aL (B6 (((bM a:Nat):Int)-1)) (19:Int))+1)).toNat) ((a).size)),.slice l m n] t<i [.string a,.slice d c f] p) G) e)
 (o [.string ((a).extract ((B6 ((aL (B6 (((bM a:Nat):Int)-1)) (19:Int))+1)).toNat) ((a).size)),.slice d c f] e/\i [.string ((a).extract ((B6 ((aL (B6 (((bM a:Nat):Int)-1)) (19:Int))+1)).toNat) ((a).size)),.slice d c f] e<i [.string a,.slice d c f] p))
def Cj(P:aV)(l:LP)(m:LN)(e:ByteArray)(n:OA)(o p:Nat)(q:OA)(i:Nat)(r:bA)(s:bA):Prop:=
 ∃ (f:LP) (j:LN),f [U 0,U 1,I 0] r/\
 ∀ c d a b,f [U c,U d,I a] b->Bd (a<(i:Int)) (∃ k,Ax q k a i <| ∃ g,b.cell? (k.add (a.toNat*1))=some (Y g)/\f [U (B9 ((B9 ((10:Int)*c))+(B9 (wu8 (g-48))))),U (B9 (d*(10:Int))),I (B6 (a+1))] b/\j [U (B9 ((B9 ((10:Int)*c))+(B9 (wu8 (g-48))))),U (B9 (d*(10:Int))),I (B6 (a+1))] b<j [U c,U d,I a] b)
 ((0<=B6 ((aL (B6 (((bM e:Nat):Int)-1)) (19:Int))+1)/\B6 ((aL (B6 (((bM e:Nat):Int)-1)) (19:Int))+1)<=(((e).size:Nat):Int))/\S5 P l m e n o p c d s b)
def Io(P:aV)(j:ByteArray)(h:bA)(K:VP):Prop:=
 ∃ (c:LP) (k:LN),c [.string j,N0] h/\
 ∀ a d e f b,c [.string a,.slice d e f] b->Bd (((bM a:Nat):Int)>0) ((0<=B6 ((aL (B6 (((bM a:Nat):Int)-1)) (19:Int))+1)/\B6 ((aL (B6 (((bM a:Nat):Int)-1)) (19:Int))+1)<=(((a).size:Nat):Int))/\wpH P (convert 9 166 (.string ((a).extract 0 ((B6 ((aL (B6 (((bM a:Nat):Int)-1)) (19:Int))+1)).toNat)))) (fun l m=>∃ g i n,l=Sl g i n/\Cj P c k a d e f g i m b) b)
 (K (Sl d e f) b)
def Nx(P:aV)(a:ByteArray)(h:bA)(K:VP):Prop:=
 Io P a h K
def Ig a(hvc:Nx prog a h K):aH prog 257 #[.string a] h K:=
 fnq func257 { loops:=[(2,⟨[0,3],[],[.string ⟨#[]⟩,N0],⟨([0,3,4,5,6]++Lrg 8 58),[]⟩⟩),(6,⟨[5,6,25],[],[U 0,U 0,I 0],⟨([5,6,8]++Lrg 25 13),[]⟩⟩),(14,⟨[9,44],[],[U 0,I 0],⟨([9,10,11]++Lrg 44 16),[]⟩⟩)] } [] [] hvc
def Oa(P:aV)(i:Int)(f:Int)(c:Int)(a:Int)(l:LP)(n:bA):Prop:=
 ∃ (j:LP) (m:LN),j [U (B9 (aF (bor .u64 (B9 (i*2^(min (B9 a).toNat 64))) (aU f (2^(min (B9 ((64:Int)-(B9 a))).toNat 64)))) (aU (B9 (c*2^(min (B9 a).toNat 64))) (2^(min ((32:Int)).toNat 64))))),U (B9 ((bor .u64 (B9 (i*2^(min (B9 a).toNat 64))) (aU f (2^(min (B9 ((64:Int)-(B9 a))).toNat 64))))-(B9 ((B9 (aF (bor .u64 (B9 (i*2^(min (B9 a).toNat 64))) (aU f (2^(min (B9 ((64:Int)-(B9 a))).toNat 64)))) (aU (B9 (c*2^(min (B9 a).toNat 64))) (2^(min ((32:Int)).toNat 64)))))*(aU (B9 (c*2^(min (B9 a).toNat 64))) (2^(min ((32:Int)).toNat 64)))))))] n/\
 ∀ b d e,j [U b,U d] e->∃ (k:LP),(Bd (b>=4294967296) (k [] e)
 (Bd ((B9 (b*(Lj .u64 (B9 (c*2^(min (B9 a).toNat 64))) (4294967295:Int))))>(B9 ((B9 ((4294967296:Int)*d))+(aU (B9 (f*2^(min (B9 a).toNat 64))) (2^(min ((32:Int)).toNat 64)))))) (k [] e)
 (l [U b] e)))/\
 ∀ g,k [] g->Bd ((B9 (d+(aU (B9 (c*2^(min (B9 a).toNat 64))) (2^(min ((32:Int)).toNat 64)))))>=4294967296) (l [U (B9 (b-1))] g)
 (j [U (B9 (b-1)),U (B9 (d+(aU (B9 (c*2^(min (B9 a).toNat 64))) (2^(min ((32:Int)).toNat 64)))))] g/\m [U (B9 (b-1)),U (B9 (d+(aU (B9 (c*2^(min (B9 a).toNat 64))) (2^(min ((32:Int)).toNat 64)))))] g<m [U b,U d] e)
def Nz(P:aV)(i:Int)(d:Int)(b:Int)(a:Int)(j:Int)(m:LP)(o:bA):Prop:=
 ∃ (k:LP) (n:LN),k [U (B9 ((B9 ((B9 ((B9 ((bor .u64 (B9 (i*2^(min (B9 a).toNat 64))) (aU d (2^(min (B9 ((64:Int)-(B9 a))).toNat 64))))*(4294967296:Int)))+(aU (B9 (d*2^(min (B9 a).toNat 64))) (2^(min ((32:Int)).toNat 64)))))-(B9 (j*(B9 (b*2^(min (B9 a).toNat 64)))))))-(B9 ((B9 (aF (B9 ((B9 ((B9 ((bor .u64 (B9 (i*2^(min (B9 a).toNat 64))) (aU d (2^(min (B9 ((64:Int)-(B9 a))).toNat 64))))*(4294967296:Int)))+(aU (B9 (d*2^(min (B9 a).toNat 64))) (2^(min ((32:Int)).toNat 64)))))-(B9 (j*(B9 (b*2^(min (B9 a).toNat 64))))))) (aU (B9 (b*2^(min (B9 a).toNat 64))) (2^(min ((32:Int)).toNat 64)))))*(aU (B9 (b*2^(min (B9 a).toNat 64))) (2^(min ((32:Int)).toNat 64))))))),U (B9 (aF (B9 ((B9 ((B9 ((bor .u64 (B9 (i*2^(min (B9 a).toNat 64))) (aU d (2^(min (B9 ((64:Int)-(B9 a))).toNat 64))))*(4294967296:Int)))+(aU (B9 (d*2^(min (B9 a).toNat 64))) (2^(min ((32:Int)).toNat 64)))))-(B9 (j*(B9 (b*2^(min (B9 a).toNat 64))))))) (aU (B9 (b*2^(min (B9 a).toNat 64))) (2^(min ((32:Int)).toNat 64)))))] o/\
 ∀ e c f,k [U e,U c] f->∃ (l:LP),(Bd (c>=4294967296) (l [] f)
 (Bd ((B9 (c*(Lj .u64 (B9 (b*2^(min (B9 a).toNat 64))) (4294967295:Int))))>(B9 ((B9 ((4294967296:Int)*e))+(Lj .u64 (B9 (d*2^(min (B9 a).toNat 64))) (4294967295:Int))))) (l [] f)
 (m [U c] f)))/\
 ∀ g,l [] g->Bd ((B9 (e+(aU (B9 (b*2^(min (B9 a).toNat 64))) (2^(min ((32:Int)).toNat 64)))))>=4294967296) (m [U (B9 (c-1))] g)
 (k [U (B9 (e+(aU (B9 (b*2^(min (B9 a).toNat 64))) (2^(min ((32:Int)).toNat 64))))),U (B9 (c-1))] g/\n [U (B9 (e+(aU (B9 (b*2^(min (B9 a).toNat 64))) (2^(min ((32:Int)).toNat 64))))),U (B9 (c-1))] g<n [U e,U c] f)
def Ob(P:aV)(f:Int)(b:Int)(c:Int)(K:VP)(a:Int)(d:Int)(e:Int)(g:bA):Prop:=
 Bd (B9 a<0) False
 (K (.tuple #[U (B9 ((B9 (d*(4294967296:Int)))+e)),U (aU (B9 ((B9 ((B9 ((B9 ((B9 ((B9 ((bor .u64 (B9 (f*2^(min (B9 a).toNat 64))) (aU b (2^(min (B9 ((64:Int)-(B9 a))).toNat 64))))*(4294967296:Int)))+(aU (B9 (b*2^(min (B9 a).toNat 64))) (2^(min ((32:Int)).toNat 64)))))-(B9 (d*(B9 (c*2^(min (B9 a).toNat 64)))))))*(4294967296:Int)))+(Lj .u64 (B9 (b*2^(min (B9 a).toNat 64))) (4294967295:Int))))-(B9 (e*(B9 (c*2^(min (B9 a).toNat 64))))))) (2^(min (B9 a).toNat 64)))]) g)
def Oc(P:aV)(c:Int)(d:Int)(a:Int)(K:VP)(b:Int)(e:Int)(j:bA):Prop:=
 Bd (aU (B9 (a*2^(min (B9 b).toNat 64))) (2^(min ((32:Int)).toNat 64))=0) False
 (∃ (f:LP),(Nz P c d a b e f j)/\
 ∀ g i,f [U g] i->Ob P c d a K b e g i)
def A03(P:aV)(c:Int)(d:Int)(a:Int)(h:bA)(K:VP):Prop:=
 Br (a==0) (∃ (i:dO),h.cell? (⟨2,0,none⟩)=some (i)/\False)
 (Bd (a<=c) (∃ (j:dO),h.cell? (⟨3,0,none⟩)=some (j)/\False)
 (Br (c==0) (Bd (a=0) False
 (Bd (a=0) False
 (K (.tuple #[U (B9 (aF d a)),U (aL d a)]) h)))
 (aH P 258 #[U a] h (fun k l=>∃ b,k=I b/\Bd (B9 b<0) False
 (Bd (B9 b<0) False
 (Bd (B9 ((64:Int)-(B9 b))<0) False
 (Bd (B9 b<0) False
 (Bd (aU (B9 (a*2^(min (B9 b).toNat 64))) (2^(min ((32:Int)).toNat 64))=0) False
 (∃ (e:LP),(Oa P c d a b e l)/\
 ∀ f g,e [U f] g->Oc P c d a K b f g)))))))))
def Wt a b c(hvc:A03 prog a b c h K):aH prog 264 #[U a,U b,U c] h K:=
 fnq func264 ⟨[(17,⟨[15,16],[],[U 0,U 0],⟨([15,16]++Lrg 67 19),[]⟩⟩),(24,⟨[16,18],[],[U 0,U 0],⟨([16,18]++Lrg 102 19),[]⟩⟩)],[(18,⟨[],[],[],⟨(Lrg 67 12),[]⟩⟩),(21,⟨[15],[],[U 0],⟨([15,16]++Lrg 67 19),[]⟩⟩),(25,⟨[],[],[],⟨(Lrg 102 12),[]⟩⟩),(28,⟨[18],[],[U 0],⟨([16,18]++Lrg 102 19),[]⟩⟩)],[],[],[]⟩ [] [] hvc
def Gm(P:aV)(a:Int)(h:bA)(K:VP):Prop:=
 Br (a==0) (K (I 64) h)
 ((0<=aU (B9 ((Lj .u64 a (B9 (0-a)))*(285870213051353865:Int))) (2^(min ((58:Int)).toNat 64))/\aU (B9 ((Lj .u64 a (B9 (0-a)))*(285870213051353865:Int))) (2^(min ((58:Int)).toNat 64))<(64:Int))/\∃ b,h.cell? (dL (⟨1,0,none⟩) ((aU (B9 ((Lj .u64 a (B9 (0-a)))*(285870213051353865:Int))) (2^(min ((58:Int)).toNat 64))).toNat*1))=some (Y b)/\K (I (B6 b)) h)
def Ct a(hvc:Gm prog a h K):aH prog 263 #[U a] h K:=
 fnq func263 an0 [] [] hvc
def Qr:ByteArray:={ data:=#[0,1,2,2,3,3,3,3,4,4,4,4,4,4,4,4,5,5,5,5,5,5,5,5,5,5,5,5,5,5,5,5,6,6,6,6,6,6,6,6,6,6,6,6,6,6,6,6,6,6,6,6,6,6,6,6,6,6,6,6,6,6,6,6,7,7,7,7,7,7,7,7,7,7,7,7,7,7,7,7,7,7,7,7,7,7,7,7,7,7,7,7,7,7,7,7,7,7,7,7,7,7,7,7,7,7,7,7,7,7,7,7,7,7,7,7,7,7,7,7,7,7,7,7,7,7,7,7,8,8,8,8,8,8,8,8,8,8,8,8,8,8,8,8,8,8,8,8,8,8,8,8,8,8,8,8,8,8,8,8,8,8,8,8,8,8,8,8,8,8,8,8,8,8,8,8,8,8,8,8,8,8,8,8,8,8,8,8,8,8,8,8,8,8,8,8,8,8,8,8,8,8,8,8,8,8,8,8,8,8,8,8,8,8,8,8,8,8,8,8,8,8,8,8,8,8,8,8,8,8,8,8,8,8,8,8,8,8,8,8,8,8,8,8,8,8,8,8,8,8,8,8,8,8,8,8] }
def A44(P:aV)(c:Int)(h:bA)(K:VP):Prop:=
 ∃ (d:LP),(Bd (c>=4294967296) (d [U (aU c (2^(min ((32:Int)).toNat 64))),I 32] h)
 (d [U c,I 0] h))/\
 ∀ a g i,d [U a,I g] i->∃ (e:LP),(Bd (a>=65536) (e [U (aU a (2^(min ((16:Int)).toNat 64))),I (B6 (g+16))] i)
 (e [U a,I g] i))/\
 ∀ b j k,e [U b,I j] k->∃ (f:LP),(Bd (b>=256) (f [U (aU b (2^(min ((8:Int)).toNat 64))),I (B6 (j+8))] k)
 (f [U b,I j] k))/\
 ∀ l n o,f [U l,I n] o->∃ (m:UInt8),(0<=wu8 l/\((Qr:ByteArray))[(wu8 l).toNat]? = some m)/\K (I (B6 (n+(B6 ((m.toNat:Nat):Int))))) o
def Ws a(hvc:A44 prog a h K):aH prog 266 #[U a] h K:=
 fnq func266 { cuts:=[(4,⟨[0,2],[],[U 0,I 0],⟨[0,2,3,4,5,6],[]⟩⟩),(7,⟨[0,2],[],[U 0,I 0],⟨[0,2,7,8,9,10,11,12],[]⟩⟩),(10,⟨[0,2],[],[U 0,I 0],⟨[0,2,13,14,15,16,17,18],[]⟩⟩)] } [] [] hvc
def Ss:A5q prog 274 (fun a=>do
 let (x,y,c)<-cW "Add64" a
 pure (cF ((x+y+c)%aN) ((x+y+c)/aN))):=⟨f274,func274,by kernel_rfl,by kernel_rfl,by kernel_rfl,by kernel_rfl⟩
def Sr:A5q prog 262 (fun a=>do
 let (x,y,c)<-cW "Sub64" a
 pure (cF ((x+aN-y-c)%aN) (if x<y+c then 1 else 0))):=⟨f262,func262,by kernel_rfl,by kernel_rfl,by kernel_rfl,by kernel_rfl⟩
end
section
set_option maxRecDepth 100000
variable {h:bA} {K:VP}
def F6:ByteArray:={ data:=#[48,48,48,49,48,50,48,51,48,52,48,53,48,54,48,55,48,56,48,57,49,48,49,49,49,50,49,51,49,52,49,53,49,54,49,55,49,56,49,57,50,48,50,49,50,50,50,51,50,52,50,53,50,54,50,55,50,56,50,57,51,48,51,49,51,50,51,51,51,52,51,53,51,54,51,55,51,56,51,57,52,48,52,49,52,50,52,51,52,52,52,53,52,54,52,55,52,56,52,57,53,48,53,49,53,50,53,51,53,52,53,53,53,54,53,55,53,56,53,57,54,48,54,49,54,50,54,51,54,52,54,53,54,54,54,55,54,56,54,57,55,48,55,49,55,50,55,51,55,52,55,53,55,54,55,55,55,56,55,57,56,48,56,49,56,50,56,51,56,52,56,53,56,54,56,55,56,56,56,57,57,48,57,49,57,50,57,51,57,52,57,53,57,54,57,55,57,56,57,57] }
def Ac(P:aV)(c:OA)(d:Nat)(K:VP)(e:Int)(f:Int)(a:bA):Prop:=
 Bd (e>0) (∃ b,Ax c b (0:Int) d<|wpH P (aS 5 (Pt (b.add (((0:Int)).toNat*1))) (Y (wu8 (F0 ((48:Int)+f))))) (fun _ g=>K (T0) g) a)
 (K (T0) a)
def Ad(P:aV)(c:OA)(d:Nat)(K:VP)(a:Int)(b:Int)(f:bA):Prop:=
 ∃ (e:LP),(Bd (a>=2) (∃ (g:UInt8),(0<=F0 ((F0 ((aL b (100:Int))*(2:Int)))+1)/\((F6:ByteArray))[(F0 ((F0 ((aL b (100:Int))*(2:Int)))+1)).toNat]? = some g)/\∃ (i:UInt8),(0<=F0 ((aL b (100:Int))*(2:Int))/\((F6:ByteArray))[(F0 ((aL b (100:Int))*(2:Int))).toNat]? = some i)/\∃ j,Ax c j (B6 (a-1)) d<|wpH P (aS 5 (Pt (j.add ((B6 (a-1)).toNat*1))) (Y ((g.toNat:Nat):Int))) (fun _ o=>∃ k,Ax c k (B6 (a-2)) d<|wpH P (aS 5 (Pt (k.add ((B6 (a-2)).toNat*1))) (Y ((i.toNat:Nat):Int))) (fun _ p=>e [I (B6 (a-2)),U32 (F0 (aF b (100:Int)))] p) o) f)
 (e [I a,U32 b] f))/\
 ∀ l m n,e [I l,U32 m] n->Ac P c d K l m n
def Lh(P:aV)(d:OA)(c a4:Nat)(O:Int)(h:bA)(K:VP):Prop:=
 ∃ (f:LP) (i:LN),f [U O,I (c:Int)] h/\
 ∀ b a e,f [U b,I a] e->Bd (a>=8) (∃ (j:UInt8),(0<=F0 ((F0 ((aL (aL (F0 (aL b (100000000:Int))) (10000:Int)) (100:Int))*(2:Int)))+1)/\((F6:ByteArray))[(F0 ((F0 ((aL (aL (F0 (aL b (100000000:Int))) (10000:Int)) (100:Int))*(2:Int)))+1)).toNat]? = some j)/\∃ (k:UInt8),(0<=F0 ((aL (aL (F0 (aL b (100000000:Int))) (10000:Int)) (100:Int))*(2:Int))/\((F6:ByteArray))[(F0 ((aL (aL (F0 (aL b (100000000:Int))) (10000:Int)) (100:Int))*(2:Int))).toNat]? = some k)/\∃ w,Ax d w (B6 (a-1)) c<|wpH P (aS 5 (Pt (w.add ((B6 (a-1)).toNat*1))) (Y ((j.toNat:Nat):Int))) (fun _ Q=>∃ x,Ax d x (B6 (a-2)) c<|wpH P (aS 5 (Pt (x.add ((B6 (a-2)).toNat*1))) (Y ((k.toNat:Nat):Int))) (fun _ R=>∃ (l:UInt8),(0<=F0 ((F0 ((F0 (aF (aL (F0 (aL b (100000000:Int))) (10000:Int)) (100:Int)))*(2:Int)))+1)/\((F6:ByteArray))[(F0 ((F0 ((F0 (aF (aL (F0 (aL b (100000000:Int))) (10000:Int)) (100:Int)))*(2:Int)))+1)).toNat]? = some l)/\∃ (m:UInt8),(0<=F0 ((F0 (aF (aL (F0 (aL b (100000000:Int))) (10000:Int)) (100:Int)))*(2:Int))/\((F6:ByteArray))[(F0 ((F0 (aF (aL (F0 (aL b (100000000:Int))) (10000:Int)) (100:Int)))*(2:Int))).toNat]? = some m)/\∃ y,Ax d y (B6 (a-3)) c<|wpH P (aS 5 (Pt (y.add ((B6 (a-3)).toNat*1))) (Y ((l.toNat:Nat):Int))) (fun _ S=>∃ z,Ax d z (B6 (a-4)) c<|wpH P (aS 5 (Pt (z.add ((B6 (a-4)).toNat*1))) (Y ((m.toNat:Nat):Int))) (fun _ T=>∃ (n:UInt8),(0<=F0 ((F0 ((aL (F0 (aF (F0 (aL b (100000000:Int))) (10000:Int))) (100:Int))*(2:Int)))+1)/\((F6:ByteArray))[(F0 ((F0 ((aL (F0 (aF (F0 (aL b (100000000:Int))) (10000:Int))) (100:Int))*(2:Int)))+1)).toNat]? = some n)/\∃ (o:UInt8),(0<=F0 ((aL (F0 (aF (F0 (aL b (100000000:Int))) (10000:Int))) (100:Int))*(2:Int))/\((F6:ByteArray))[(F0 ((aL (F0 (aF (F0 (aL b (100000000:Int))) (10000:Int))) (100:Int))*(2:Int))).toNat]? = some o)/\∃ A,Ax d A (B6 (a-5)) c<|wpH P (aS 5 (Pt (A.add ((B6 (a-5)).toNat*1))) (Y ((n.toNat:Nat):Int))) (fun _ V=>∃ B,Ax d B (B6 (a-6)) c<|wpH P (aS 5 (Pt (B.add ((B6 (a-6)).toNat*1))) (Y ((o.toNat:Nat):Int))) (fun _ W=>∃ (p:UInt8),(0<=F0 ((F0 ((F0 (aF (F0 (aF (F0 (aL b (100000000:Int))) (10000:Int))) (100:Int)))*(2:Int)))+1)/\((F6:ByteArray))[(F0 ((F0 ((F0 (aF (F0 (aF (F0 (aL b (100000000:Int))) (10000:Int))) (100:Int)))*(2:Int)))+1)).toNat]? = some p)/\∃ (q:UInt8),(0<=F0 ((F0 (aF (F0 (aF (F0 (aL b (100000000:Int))) (10000:Int))) (100:Int)))*(2:Int))/\((F6:ByteArray))[(F0 ((F0 (aF (F0 (aF (F0 (aL b (100000000:Int))) (10000:Int))) (100:Int)))*(2:Int))).toNat]? = some q)/\∃ C,Ax d C (B6 (a-7)) c<|wpH P (aS 5 (Pt (C.add ((B6 (a-7)).toNat*1))) (Y ((p.toNat:Nat):Int))) (fun _ X=>∃ D,Ax d D (B6 (a-8)) c<|wpH P (aS 5 (Pt (D.add ((B6 (a-8)).toNat*1))) (Y ((q.toNat:Nat):Int))) (fun _ v=>f [U (B9 (aF b (100000000:Int))),I (B6 (a-8))] v/\i [U (B9 (aF b (100000000:Int))),I (B6 (a-8))] v<i [U b,I a] e) X) W) V) T) S) R) Q) e)
 (∃ (g:LP),(Bd (a>=4) (∃ (r:UInt8),(0<=F0 ((F0 ((aL (aL (F0 b) (10000:Int)) (100:Int))*(2:Int)))+1)/\((F6:ByteArray))[(F0 ((F0 ((aL (aL (F0 b) (10000:Int)) (100:Int))*(2:Int)))+1)).toNat]? = some r)/\∃ (s:UInt8),(0<=F0 ((aL (aL (F0 b) (10000:Int)) (100:Int))*(2:Int))/\((F6:ByteArray))[(F0 ((aL (aL (F0 b) (10000:Int)) (100:Int))*(2:Int))).toNat]? = some s)/\∃ E,Ax d E (B6 (a-1)) c<|wpH P (aS 5 (Pt (E.add ((B6 (a-1)).toNat*1))) (Y ((r.toNat:Nat):Int))) (fun _ a0=>∃ F,Ax d F (B6 (a-2)) c<|wpH P (aS 5 (Pt (F.add ((B6 (a-2)).toNat*1))) (Y ((s.toNat:Nat):Int))) (fun _ a1=>∃ (t:UInt8),(0<=F0 ((F0 ((F0 (aF (aL (F0 b) (10000:Int)) (100:Int)))*(2:Int)))+1)/\((F6:ByteArray))[(F0 ((F0 ((F0 (aF (aL (F0 b) (10000:Int)) (100:Int)))*(2:Int)))+1)).toNat]? = some t)/\∃ (u:UInt8),(0<=F0 ((F0 (aF (aL (F0 b) (10000:Int)) (100:Int)))*(2:Int))/\((F6:ByteArray))[(F0 ((F0 (aF (aL (F0 b) (10000:Int)) (100:Int)))*(2:Int))).toNat]? = some u)/\∃ G,Ax d G (B6 (a-3)) c<|wpH P (aS 5 (Pt (G.add ((B6 (a-3)).toNat*1))) (Y ((t.toNat:Nat):Int))) (fun _ a2=>∃ H,Ax d H (B6 (a-4)) c<|wpH P (aS 5 (Pt (H.add ((B6 (a-4)).toNat*1))) (Y ((u.toNat:Nat):Int))) (fun _ a3=>g [I (B6 (a-4)),U32 (F0 (aF (F0 b) (10000:Int)))] a3) a2) a1) a0) e)
 (g [I a,U32 (F0 b)] e))/\
 ∀ L M N,g [I L,U32 M] N->Ad P d c K L M N)
def Gj a b c d(hvc:Lh prog a b c d h K):aH prog 241 #[Sl a b c,U d] h K:=
 fnq func241 ⟨[(1,⟨[1,4],[],[U 0,I 0],⟨([1]++Lrg 4 8++Lrg 19 77),[]⟩⟩)],[(20,⟨[4,12],[],[I 0,.int .u32 0],⟨([4,12,13,14,15]++Lrg 98 40),[]⟩⟩),(25,⟨[4,12],[],[I 0,.int .u32 0],⟨([4,12,16]++Lrg 138 22),[]⟩⟩)],[],[],[]⟩ [] [] hvc
def Kn:ByteArray:={ data:=#[48,49,50,51,52,53,54,55,56,57,97,98,99,100,101,102,103,104,105,106,107,108,109,110,111,112,113,114,115,116,117,118,119,120,121,122] }
def A42(P:aV)(a:Int)(h:bA)(K:VP):Prop:=
 Bd (a<10) ((0<=B6 (a+1)/\B6 (a+1)<=((((Kn:ByteArray)).size:Nat):Int))/\(0<=a/\a<=(((B6 (a+1)).toNat:Nat):Int))/\K (.string (((Kn:ByteArray)).extract (a.toNat) ((B6 (a+1)).toNat))) h)
 ((0<=B6 ((B6 (a*(2:Int)))+2)/\B6 ((B6 (a*(2:Int)))+2)<=((((F6:ByteArray)).size:Nat):Int))/\(0<=B6 (a*(2:Int))/\B6 (a*(2:Int))<=(((B6 ((B6 (a*(2:Int)))+2)).toNat:Nat):Int))/\K (.string (((F6:ByteArray)).extract ((B6 (a*(2:Int))).toNat) ((B6 ((B6 (a*(2:Int)))+2)).toNat))) h)
def Wn a(hvc:A42 prog a h K):aH prog 239 #[I a] h K:=
 fnq func239 an0 [] [] hvc
end
section
set_option maxRecDepth 100000
variable {h:bA} {K:VP}
def A5p(P:aV)(b:Bool)(c:OA)(d e:Nat)(i:Bool)(j:OA)(k l:Nat)(h:bA)(K:VP):Prop:=
 aH P 122 #[Zv b c d e] h (fun f g=>∃ a,f=I a/\K (I a) g)
def Ze a b c d e f g i(hvc:A5p prog a b c d e f g i h K):aH prog 135 #[Qv a b c d e f g i] h K:=
 fnq func135 an0 [1] [] hvc
def A69(P:aV)(f:Bool)(g:OA)(i j:Nat)(k:Bool)(l:OA)(m n:Nat)(h:bA)(K:VP):Prop:=
 aH P 125 #[Zv f g i j] h (fun o a=>∃ b c d e,o=Zv b c d e/\h.le a/\K (Qv b c d e k l m n) a)
def A1r a b c d e f g i(hvc:A69 prog a b c d e f g i h K):aH prog 140 #[Qv a b c d e f g i] h K:=
 fnq func140 { orders:=[(1,([0,1,3,4,2,5,6],[]))] } [1,2] [] hvc
def A6c(P:aV)(r:Bool)(s:OA)(t u:Nat)(e:Bool)(f:OA)(g i:Nat)(v:Bool)(w:OA)(x y:Nat)(a:Bool)(b:OA)(c d:Nat)(h:bA)(K:VP):Prop:=
 ∃ (A:LP),(aH P 121 #[Zv e f g i] h (fun i5 b0=>∃ (a3:Bool),i5= .bool a3/\Br a3 (aH P 121 #[Zv a b c d] b0 (fun i6 i7=>∃ (a4:Bool),i6= .bool a4/\A [.bool a4] i7))
 (A [.bool false] b0)))/\
 ∀ b9 R,A [.bool b9] R->Br b9 (aH P 138 #[Zv r s t u,Zv v w x y] R (fun i8 i9=>∃ c0 c1 c2 c3,i8=Zv c0 c1 c2 c3/\K (Qv c0 c1 c2 c3 false none 0 0) i9))
 (∃ (a5:LP),(aH P 121 #[Zv e f g i] R (fun j0 j1=>∃ (a6:Bool),j0= .bool a6/\a5 [.bool a6] j1))/\
 ∀ c4 z,a5 [.bool c4] z->Br c4 (aH P 137 #[Zv r s t u,Zv a b c d] z (fun j2 B=>∃ c5 c6 c7 c8,j2=Zv c5 c6 c7 c8/\z.le B/\aH P 138 #[Zv c5 c6 c7 c8,Zv v w x y] B (fun j3 b1=>∃ c9 d0 d1 d2,j3=Zv c9 d0 d1 d2/\B.le b1/\K (Qv c9 d0 d1 d2 a b c d) b1)))
 (aH P 121 #[Zv a b c d] z (fun j4 C=>∃ (a7:Bool),j4= .bool a7/\Br a7 (aH P 137 #[Zv v w x y,Zv e f g i] C (fun j5 D=>∃ d3 d4 d5 d6,j5=Zv d3 d4 d5 d6/\C.le D/\aH P 138 #[Zv d3 d4 d5 d6,Zv r s t u] D (fun j6 b2=>∃ d7 d8 d9 e0,j6=Zv d7 d8 d9 e0/\D.le b2/\K (Qv d7 d8 d9 e0 e f g i) b2)))
 (aH P 117 #[Zv e f g i,Zv a b c d] C (fun j7 b3=>∃ j k l m,j7=Zv j k l m/\aH P 139 #[Zv a b c d,Zv j k l m] b3 (fun j8 E=>∃ e1 e2 e3 e4,j8=Zv e1 e2 e3 e4/\b3.le E/\aH P 139 #[Zv e f g i,Zv j k l m] E (fun j9 F=>∃ S T V W,j9=Zv S T V W/\E.le F/\aH P 137 #[Zv r s t u,Zv e1 e2 e3 e4] F (fun k0 G=>∃ e5 e6 e7 e8,k0=Zv e5 e6 e7 e8/\F.le G/\aH P 137 #[Zv v w x y,Zv S T V W] G (fun k1 H=>∃ e9 f0 f1 f2,k1=Zv e9 f0 f1 f2/\G.le H/\aH P 138 #[Zv e5 e6 e7 e8,Zv e9 f0 f1 f2] H (fun k2 b4=>∃ n o p q,k2=Zv n o p q/\H.le b4/\aH P 121 #[Zv n o p q] b4 (fun k3 b5=>∃ (a8:Bool),k3= .bool a8/\Br a8 (K (Qv false none 0 0 false none 0 0) b5)
 (aH P 118 #[Zv j k l m] b5 (fun k4 L=>∃ (a9:Bool),k4= .bool a9/\Br a9 (aH P 137 #[Zv e f g i,Zv a b c d] L (fun k5 M=>∃ f3 f4 f5 f6,k5=Zv f3 f4 f5 f6/\L.le M/\aH P 123 #[Zv n o p q,Zv f3 f4 f5 f6] M (fun k6 b6=>∃ f7 f8 f9 g0 g1 g2 g3 g4,k6=Qv f7 f8 f9 g0 g1 g2 g3 g4/\M.le b6/\K (Qv f7 f8 f9 g0 g1 g2 g3 g4) b6)))
 (aH P 117 #[Zv n o p q,Zv j k l m] L (fun k7 b7=>∃ X a0 a1 a2,k7=Zv X a0 a1 a2/\aH P 139 #[Zv n o p q,Zv X a0 a1 a2] b7 (fun k8 N=>∃ g5 g6 g7 g8,k8=Zv g5 g6 g7 g8/\b7.le N/\aH P 139 #[Zv a b c d,Zv X a0 a1 a2] N (fun k9 O=>∃ g9 h0 h1 h2,k9=Zv g9 h0 h1 h2/\N.le O/\aH P 137 #[Zv S T V W,Zv g9 h0 h1 h2] O (fun l0 Q=>∃ h3 h4 h5 h6,l0=Zv h3 h4 h5 h6/\O.le Q/\aH P 123 #[Zv g5 g6 g7 g8,Zv h3 h4 h5 h6] Q (fun l1 b8=>∃ h7 h8 h9 i0 i1 i2 i3 i4,l1=Qv h7 h8 h9 i0 i1 i2 i3 i4/\Q.le b8/\K (Qv h7 h8 h9 i0 i1 i2 i3 i4) b8)))))))))))))))))))
def A1u a b c d e f g i j k l m n o p q(hvc:A6c prog a b c d e f g i j k l m n o p q h K):aH prog 72 #[Qv a b c d e f g i,Qv j k l m n o p q] h K:=
 fnq func72 ⟨[],[(2,⟨[10],[],[.bool false],⟨(Lrg 10 9),[]⟩⟩),(4,⟨[25],[],[.bool false],⟨[25,26,27,28],[]⟩⟩)],[(4,([0,1,2,3,5,6,8,9,4,7,10,11],[])),(6,([0,1,2,3,5,6,8,9,4,7,10,11],[])),(8,([0,1,2,4,5,6,8,9,3,7,10,11],[])),(9,([0,1,2,4,5,6,9,3,7,8,10],[])),(15,([0,1,3,4,5,6,2,7,8,9,10],[]))],[],[]⟩ (Lrg 2 8) [] hvc
def A68(P:aV)(t:Bool)(u:OA)(v w:Nat)(x:Bool)(y:OA)(z A:Nat)(B:Bool)(C:OA)(D E:Nat)(F:Bool)(G:OA)(H L:Nat)(h:bA)(K:VP):Prop:=
 aH P 140 #[Qv B C D E F G H L] h (fun M a=>∃ c d e f g i j k,M=Qv c d e f g i j k/\h.le a/\aH P 72 #[Qv t u v w x y z A,Qv c d e f g i j k] a (fun N b=>∃ l m n o p q r s,N=Qv l m n o p q r s/\a.le b/\K (Qv l m n o p q r s) b))
def A1q a b c d e f g i j k l m n o p q(hvc:A68 prog a b c d e f g i j k l m n o p q h K):aH prog 73 #[Qv a b c d e f g i,Qv j k l m n o p q] h K:=
 fnq func73 an0 [2,3,4] [] hvc
def A6a(P:aV)(a:Bool)(b:OA)(c d:Nat)(t:Bool)(u:OA)(v w:Nat)(e:Bool)(f:OA)(g i:Nat)(x:Bool)(y:OA)(z A:Nat)(h:bA)(K:VP):Prop:=
 ∃ (k:LP),(aH P 121 #[Zv a b c d] h (fun d5 a2=>∃ (B:Bool),d5= .bool B/\Br B (k [.bool true] a2)
 (aH P 121 #[Zv e f g i] a2 (fun d6 d7=>∃ (C:Bool),d6= .bool C/\k [.bool C] d7))))/\
 ∀ a5 s,k [.bool a5] s->Br a5 (K (Qv false none 0 0 false none 0 0) s)
 (∃ (l:LP),(aH P 121 #[Zv t u v w] s (fun d8 a3=>∃ (D:Bool),d8= .bool D/\Br D (aH P 121 #[Zv x y z A] a3 (fun d9 e0=>∃ (E:Bool),d9= .bool E/\l [.bool E] e0))
 (l [.bool false] a3)))/\
 ∀ a6 j,l [.bool a6] j->Br a6 (aH P 137 #[Zv a b c d,Zv e f g i] j (fun e1 e2=>∃ a7 a8 a9 b0,e1=Zv a7 a8 a9 b0/\K (Qv a7 a8 a9 b0 false none 0 0) e2))
 (aH P 124 #[Qv e f g i x y z A] j (fun e3 m=>∃ b1 b2 b3 b4,e3=Zv b1 b2 b3 b4/\j.le m/\aH P 147 #[Zv a b c d,Zv b1 b2 b3 b4] m (fun e4 n=>∃ (F:Bool) (G:OA) (H L:Nat) (M:Bool) (N:OA) (O Q:Nat),e4= .tuple #[Zv F G H L,Zv M N O Q]/\m.le n/\aH P 124 #[Qv a b c d t u v w] n (fun e5 o=>∃ b5 b6 b7 b8,e5=Zv b5 b6 b7 b8/\n.le o/\aH P 147 #[Zv e f g i,Zv b5 b6 b7 b8] o (fun e6 p=>∃ (R:Bool) (S:OA) (T V:Nat) (W:Bool) (X:OA) (a0 a1:Nat),e6= .tuple #[Zv R S T V,Zv W X a0 a1]/\o.le p/\aH P 137 #[Zv F G H L,Zv R S T V] p (fun e7 q=>∃ b9 c0 c1 c2,e7=Zv b9 c0 c1 c2/\p.le q/\aH P 137 #[Zv W X a0 a1,Zv M N O Q] q (fun e8 r=>∃ c3 c4 c5 c6,e8=Zv c3 c4 c5 c6/\q.le r/\aH P 123 #[Zv b9 c0 c1 c2,Zv c3 c4 c5 c6] r (fun e9 a4=>∃ c7 c8 c9 d0 d1 d2 d3 d4,e9=Qv c7 c8 c9 d0 d1 d2 d3 d4/\r.le a4/\K (Qv c7 c8 c9 d0 d1 d2 d3 d4) a4)))))))))
def A1s a b c d e f g i j k l m n o p q(hvc:A6a prog a b c d e f g i j k l m n o p q h K):aH prog 79 #[Qv a b c d e f g i,Qv j k l m n o p q] h K:=
 fnq func79 ⟨[],[(2,⟨[16],[],[.bool false],⟨(Lrg 9 8),[]⟩⟩),(4,⟨[25],[],[.bool false],⟨(Lrg 18 8),[]⟩⟩)],[(5,([0,1,2,8,9,3,4,5,6,7,10,11],[])),(6,([0,1,2,8,9,3,4,5,6,7,10,11],[])),(7,([0,1,3,4,2,5,6,7],[]))],[],[]⟩ [2,3,4,5,6,7,8] [] hvc
def A6b(P:aV)(t:Bool)(u:OA)(v w:Nat)(x:Bool)(y:OA)(z A:Nat)(B:Bool)(C:OA)(D E:Nat)(F:Bool)(G:OA)(H L:Nat)(h:bA)(K:VP):Prop:=
 aH P 62 #[Qv B C D E F G H L] h (fun M a=>∃ c d e f g i j k,M=Qv c d e f g i j k/\h.le a/\aH P 79 #[Qv t u v w x y z A,Qv c d e f g i j k] a (fun N b=>∃ l m n o p q r s,N=Qv l m n o p q r s/\a.le b/\K (Qv l m n o p q r s) b))
def A1t a b c d e f g i j k l m n o p q(hvc:A6b prog a b c d e f g i j k l m n o p q h K):aH prog 67 #[Qv a b c d e f g i,Qv j k l m n o p q] h K:=
 fnq func67 an0 [2,3,4] [] hvc
end
section
set_option maxRecDepth 100000
variable {h:bA} {K:VP}
def Bk(P:aV)(E:LP)(o:LN)(d:OA)(b p:Nat)(q:OA)(r s:Nat)(t:bA):Prop:=
 ∃ (f:LP) (u:LN),f [U 0,I (B6 ((b:Int)-1))] t/\
 ∀ e a c,f [U e,I a] c->Bd (a>=0) (∃ y,Ax d y a b <| ∃ z,c.cell? (y.add (a.toNat*1))=some (U z)/\aH P 264 #[U e,U z,U 10000000000000000000] c (fun F G=>∃ (v:Int) (g:Int),F= .tuple #[U v,U g]/\∃ A,Ax d A a b<|wpH P (aS 230 (Pt (A.add (a.toNat*1))) (U v)) (fun _ w=>f [U g,I (B6 (a-1))] w/\u [U g,I (B6 (a-1))] w<u [U e,I a] c) G))
 (aH P 221 #[Sl d b p] c (fun H L=>∃ i j k,H=Sl i j k/\wpH P (bZ 89 1 #[(0,U e)]) (fun M N=>∃ B C D,M=Sl B C D/\wpH P (cK #[89,89] 89 #[Sl q r s,Sl B C D]) (fun O x=>∃ l m n,O=Sl l m n/\E [.slice i j k,.slice l m n] x/\o [.slice i j k,.slice l m n] x<o [.slice d b p,.slice q r s] t) N) L))
def Aa(P:aV)(D:LP)(p:LN)(q:OA)(r s:Nat)(E:Bool)(f:Int)(F:OA)(t G:Nat)(H:Int)(L:bA)(M:bA):Prop:=
 ∃ (g:LP) (u:LN),g [.slice q r s,I 0] M/\
 ∀ b c d a e,g [.slice b c d,I a] e->Bd (a<(B6 (H-(t:Int)))) (wpH P (bZ 166 1 #[(0,Y (48:Int))]) (fun N O=>∃ x y z,N=Sl x y z/\wpH P (cK #[166,166] 166 #[Sl b c d,Sl x y z]) (fun Q w=>∃ i j k,Q=Sl i j k/\g [.slice i j k,I (B6 (a+1))] w/\u [.slice i j k,I (B6 (a+1))] w<u [.slice b c d,I a] e) O) e)
 (∃ (v:LP),(wpH P (cK #[166,166] 166 #[Sl b c d,Sl F t G]) (fun R S=>∃ A B C,R=Sl A B C/\v [.slice A B C] S) e)/\
 ∀ l m n o,v [.slice l m n] o->D [.slice l m n,.bool false,I (B6 (f-1))] o/\p [.slice l m n,.bool false,I (B6 (f-1))] o<p [.slice q r s,.bool E,I f] L)
def Z9(P:aV)(p:Int)(K:VP)(q:OA)(r s:Nat)(t:bA):Prop:=
 ∃ (f:LP) (k:LN),f [.slice q r s,I 0] t/\
 ∀ b c d a e,f [.slice b c d,I a] e->Bd (a<p) (wpH P (bZ 166 1 #[(0,Y (48:Int))]) (fun u v=>∃ m n o,u=Sl m n o/\wpH P (cK #[166,166] 166 #[Sl b c d,Sl m n o]) (fun w l=>∃ g i j,w=Sl g i j/\f [.slice g i j,I (B6 (a+1))] l/\k [.slice g i j,I (B6 (a+1))] l<k [.slice b c d,I a] e) v) e)
 (K (Sl b c d) e)
def Ab(P:aV)(t:OA)(u v:Nat)(i:Int)(K:VP)(w:OA)(l:Nat)(x:bS)(y:bA):Prop:=
 ∃ (j:LP) (z:LN),j [.slice t u v,.bool true,I (B6 ((l:Int)-1))] y/\
 ∀ d e f g a b,j [.slice d e f,.bool g,I a] b->Bd (a>=0) ((0<=(0:Int)/\(0:Int)<=(20:Int))/\∃ n,Ax w n a l <| ∃ o,b.cell? (n.add (a.toNat*1))=some (U o)/\aH P 237 #[.slice (Q7 (some x) 20 0 1) ((((0:Int)).toNat)-0) (20-0),U o,I 10] b (fun A m=>∃ p c q,A=Sl p c q/\∃ (k:LP),(Br g (k [I (if (B6 (i-(B6 ((19:Int)*a))))>(c:Int) then B6 (i-(B6 ((19:Int)*a))) else (c:Int))] m)
 (k [I 19] m))/\
 ∀ r s,k [I r] s->Aa P j z d e f g a p c q r b s))
 (Br g (Z9 P i K d e f b)
 (K (Sl d e f) b))
def Ih(P:aV)(k:OA)(l m:Nat)(n:Int)(K:VP)(o:OA)(p q:Nat)(r:bA):Prop:=
 ∃ (a:LP) (s:LN),a [.slice o p q,N0] r/\
 ∀ g b i c d j e,a [.slice g b i,.slice c d j] e->Bd ((b:Int)>0) (Bk P a s g b i c d j e)
 (wpH P (Instr.alloc 311 true (T0)) (fun t u=>∃ (f:bS),t=Pt f/\Ab P k l m n K c d f u) e)
def Lf(P:aV)(d:OA)(e f:Nat)(g:OA)(i j:Nat)(k:Int)(h:bA)(K:VP):Prop:=
 aH P 229 #[Sl g i j] h (fun l m=>∃ a b c,l=Sl a b c/\Ih P d e f k K a b c m)
def Gi a b c d e f g(hvc:Lf prog a b c d e f g h K):aH prog 267 #[Sl a b c,Sl d e f,I g] h K:=
 fnq func267 ⟨[(3,⟨[7,8],[],[N0,N0],⟨([7,8,9,10]++Lrg 18 28),[]⟩⟩),(6,⟨[9,10],[],[U 0,I 0],⟨([9,10]++Lrg 24 16),[]⟩⟩),(14,⟨[0,12,13],[],[N0,.bool false,I 0],⟨([0,12,13,14,15]++Lrg 49 31),[]⟩⟩),(21,⟨[0,71],[],[N0,I 0],⟨[0,71,72,73,74,75,76],[]⟩⟩),(28,⟨[0,82],[],[N0,I 0],⟨[0,82,83,84,85,86,87],[]⟩⟩)],[(20,⟨[15],[],[I 0],⟨([15]++Lrg 59 8),[]⟩⟩),(25,⟨[0],[],[N0],⟨[0,77,78,79],[]⟩⟩)],[],[],[]⟩ [] [237] hvc
end
def ndg(x:Nat):Nat:=x*78913/262144
def Zr:∀ x,x<65->2^x<=10^(ndg x+1)/\(ndg x=0\/10^(ndg x-1)<=2^(x-1))/\ndg x<=19:=dc
def Nn{n k:Nat}(h1:10^k<=n)(h2:n<10^(k+1)):(dd n).length=k+1:=by
 have a:=(J0 (n:=n) (k:=k+1)).2 h2
 have b:¬ (dd n).length<=k:=fun e=>by have:=J0.1 e;omega
 omega
def A3l{d:Nat}(h0:d≠0)(h:d<2^64):(dd d).length=ndg (H8 d)+(if 10^ndg (H8 d)<=d then 1 else 0):=by
 have i:=Y7 h
 obtain ⟨c,g⟩:=S3 h0
 obtain ⟨e,a,j⟩:=Zr (H8 d) o
 split
 ·rename_i b
  exact Nn b o
 ·rename_i b
  rcases a with a|a
  ·grind
  ·obtain ⟨k,hk⟩:∃ k,ndg (H8 d)=k+1:=by
    by_cases l:ndg (H8 d)=0
    ·grind
    ·exact ⟨ndg (H8 d)-1,o⟩
   rw [hk] at b a ⊢
   rw [Nat.add_sub_cancel] at a
   exact Nn o o
def A15(w n:Nat):pad (w+2) n=pad w (n/100)++[dch (n/10%10),dch (n%10)]:=by
 rw [Gr,Gr,Nat.div_div_eq_div_mul];simp
def Ul(n:Nat)(h:n=0):pad 0 n=[]:=by subst h;simp [pad,E9]
abbrev b64:Int:=18446744073709551616
abbrev Mw(h:bA)(A:Option bS)(len:Nat)(n:Int):Prop:=Mag .u64 b64 h A len n
structure Win (k:dA) (h g:bA) (b:Nat) (e:cM) (A:Option bS) (pre:List dO) (xs:List Int) (post:List dO):Prop where
 free:g b=none
 eq:h=g.put b (.cells (pre++xs.map (bU k)++post).toArray e)
 at_:xs=[]\/A=some ⟨b,pre.length,none⟩
section
variable {k:dA} {h g:bA} {b:Nat} {e:cM} {A:Option bS} {pre post:List dO} {xs:List Int}
def Win.le(w:Win k h g b e A pre xs post):g.le h:=by rw [w.eq];exact Heap.le_put _ w.free
def Win.sl(w:Win k h g b e A pre xs post):SlI k h A xs:=by
 rcases w.at_ with rfl|a
 ·exact SlI.nil
 ·right
  refine ⟨_,a,fun i v c=>?_⟩
  rw [w.eq,K5,G0]
  grind
def Win.store{P:aV}{t:cM}(one:P.cellsOf t=1/\(P.info? t).isSome=true)(w:Win k h g b e A pre xs post){a:bS}(ha:A=some a){i v:Int}(h0:0<=i)(h1:i<xs.length){K:Unit->bA->Prop}
 (x:∀ h',Win k h' g b e A pre (xs.set i.toNat v) post->K () h'):wpH P (aS t (.pointer (some (dL a (i.toNat*1)))) (.int k v)) K h:=by
 have c:A=some ⟨b,pre.length,none⟩:=by
  rcases w.at_ with rfl|c
  ·grind
  ·exact c
 rw [ha] at c
 cases c
 rw [w.eq,K5,Nat.mul_one]
 refine Mc one.1 one.2 rfl rfl gz0 ?_
 refine x _ ⟨w.free,?_,.inr ha⟩
 simp_all
def Win.storeN{P:aV}{t:cM}(one:P.cellsOf t=1/\(P.info? t).isSome=true)(w:Win k h g b e A pre xs post){a:bS}(ha:A=some a){i:Nat}{v:Int}(h1:i<xs.length){K:Unit->bA->Prop}
 (x:∀ h',Win k h' g b e A pre (xs.set i v) post->K () h'):wpH P (aS t (.pointer (some (dL a (i*1)))) (.int k v)) K h:=by
 have:=w.store one ha (i:=(i:Int)) (v:=v) (K:=K) o o (by assumption)
 assumption
def Win.call{P:aV}{f:FuncId}{args:Array dO}(w:Win k h g b e A pre xs post){K:VP}(x:aH P f args g (fun r h0=>∀ h',Win k h' h0 b e A pre xs post->K r h')):aH P f args h K:=by
 rw [w.eq]
 exact FCall.frame w.free x fun r h0 a c=>c _ ⟨a,rfl,w.at_⟩
def Win.blk(k:dA)(e:cM){g:bA}{b:Nat}(hb:g b=none)(zs:List Int):Win k (Go.Proofs.YtdphgbjaijlckaaGreatDoor.blk k e g b zs) g b e (some ⟨b,0,none⟩) [] zs []:=
 ⟨hb,by simp [Go.Proofs.YtdphgbjaijlckaaGreatDoor.blk],.inr rfl⟩
def Win.sub(w:Win k h g b e A pre xs post){l m c:Nat}(hl:l<=m)(hm:m<=xs.length)(hc:xs.length<=c):
 Win k h g b e (Q7 A c l 1) (pre++(xs.take l).map (bU k)) ((xs.drop l).take (m-l)) ((xs.drop m).map (bU k)++post):=by
 refine ⟨w.free,?_,?_⟩
 ·rw [w.eq]
  congr 3
  have:xs=xs.take l++((xs.drop l).take (m-l)++xs.drop m):=by
   have d:xs.drop m=(xs.drop l).drop (m-l):=by simp_all
   rw [d,dI,dI]
  grind
 ·by_cases i:m-l=0
  ·grind
  ·right
   rcases w.at_ with rfl|a
   ·grind
   ·unfold Q7
    rw [iN o,a]
    simp only [Option.map_some,K5,Nat.mul_one,bB,dY,aP]
    grind
def Win.whole{h' g':bA}(w:Win k h g b e A pre xs post){l m:Nat}(hl:l<=m)(hm:m<=xs.length){B:Option bS}{ys:List Int}(hy:ys.length=m-l)(v:Win k h' g' b e B (pre++(xs.take l).map (bU k)) ys ((xs.drop m).map (bU k)++post)):
 Win k h' g' b e A pre (xs.take l++ys++xs.drop m) post:=by
 refine ⟨v.free,?_,?_⟩
 ·rw [v.eq]
  grind
 ·rcases w.at_ with rfl|a
  ·grind
  grind
def Priv.win{n c:Nat}(p:Priv h g e 1 A n c (xs.map (bU k)))(hx:xs≠[]):∃ b post,Win k h g b e A [] xs post:=by
 obtain ⟨r,m,i⟩:=p
 rcases i with ⟨s,rfl⟩|⟨b,a,l,j,rfl,q,d⟩
 ·simp_all
 ·refine ⟨b,a.drop (n*1),j,?_,.inr l⟩
  rw [cH,<- d,dI]
end
def V6{P:aV}{t:cM}(one:P.cellsOf t=1/\(P.info? t).isSome=true){k:dA}{n:Int}{i:Nat}{g:bA}{b:Nat}{e:cM}{zs:List Int}(hi:i<zs.length){K:Unit->bA->Prop}
 (x:K () (blk k e g b (zs.set i n))):wpH P (aS t (.pointer (some (dL ⟨b,0,none⟩ (i*1)))) (.int k n)) K (blk k e g b zs):=by
 have:=K4 (P:=P) (t:=t) one (k:=k) (n:=n) (i:=(i:Int)) (g:=g) (b:=b) (e:=e) (zs:=zs) (K:=K) o (by assumption)
 assumption
def Bf{P:aV}{t e e' ty:cM}{k:dA}{bytes:Nat}(s:SliceT P t e' (.int k 0) 1 bytes){h g:bA}{b:Nat}{A:Option bS}{pre post:List dO}{xs:List Int}{n c m d:Nat}(w:Win k h g b e A pre xs post)(hn:n=xs.length){B:Option bS}{ys:List Int}(sy:SlI k h B ys)(hm:m=ys.length)(hle:ys.length<=xs.length){K:VP}
 (x:∀ h',Win k h' g b e A pre (ys++xs.drop ys.length) post->K (I ys.length) h'):wpH P (bW #[t,t] ty #[.slice A n c,.slice B m d]) K h:=by
 subst hn hm
 obtain ⟨i,y,z,p,q⟩:=s.parts
 unfold bW
 simp only [List.getElem?_toArray,aI,aQ,C1,D4 s.und,K8 y,G6,Builtin.lenOf,p]
 have j:Nat.min ys.length xs.length=ys.length:=aK hle
 rw [j]
 refine G9 (s:=1) (cs:=ys.map (bU k)) (by simp) sy ?_
 cases A with
 | none=>
  rcases w.at_ with l|l
  ·have:ys=[]:=cA gz0
   subst this
   exact x h (by assumption)
  ·cases l
 | some a=>
  simp only [C1]
  rcases w.at_ with l|l
  ·have:ys=[]:=cA gz0
   subst this
   exact x h (by assumption)
  ·cases l
   rw [w.eq]
   refine J7 (ys.map (bU k)) pre.length 0 (pre++xs.map (bU k)++post) gz0 (fun v r=>?_) ?_
   ·obtain ⟨u,_,rfl⟩:=List.mem_map.1 r;rfl
   ·refine x _ ⟨w.free,?_,?_⟩
    ·congr 3
     unfold K0
     rw [eM,cC pre,cR rfl,dY]
     rw [dX,aY (show pre.length<=pre.length+ys.length from o),eF,cH]
     rw [cP gz0,<- List.map_drop,List.map_append]
     grind
    grind
def Qe{P:aV}{nm:String}{x y c:Int}(hc:0<=c/\c<=1){f:Nat × Nat × Nat->dO}:Er P (cW nm #[U x,U y,U c] >>= fun p=>pure (f p))=some (f (x.toNat,y.toNat,c.toNat)):=by
 obtain rfl|rfl:c=0\/c=1:=o
 ·rfl
 ·rfl
def Uz:aN=18446744073709551616:=dc
def Y8{h:bA}{K:VP}{x y c:Int}(hx:0<=x/\x<18446744073709551616)(hy:0<=y/\y<18446744073709551616)(hc:0<=c/\c<=1)(hK:K (.tuple #[U ((x+y+c)%18446744073709551616),U ((x+y+c)/18446744073709551616)]) h):ECall prog 274 #[U x,U y,U c] h K:=by
 refine Zy Ss (Qe (P:=prog) hc (f:=fun p=>cF ((p.1+p.2.1+p.2.2)%aN) ((p.1+p.2.1+p.2.2)/aN))) ?_
 have b:((x.toNat+y.toNat+c.toNat)%aN:Nat)=(((x+y+c)%18446744073709551616:Int)):=by
  rw [Uz]
  omega
 have a:((x.toNat+y.toNat+c.toNat)/aN:Nat)=(((x+y+c)/18446744073709551616:Int)):=by
  rw [Uz]
  omega
 show K (.tuple #[U ((x.toNat+y.toNat+c.toNat)%aN:Nat),U ((x.toNat+y.toNat+c.toNat)/aN:Nat)]) h
 grind
def X5{h:bA}{K:VP}{x y c:Int}(hx:0<=x/\x<18446744073709551616)(hy:0<=y/\y<18446744073709551616)(hc:0<=c/\c<=1)(hK:K (.tuple #[U ((x-y-c)%18446744073709551616),U (if x-y-c<0 then 1 else 0)]) h):ECall prog 262 #[U x,U y,U c] h K:=by
 refine Zy Sr (Qe (P:=prog) hc (f:=fun p=>cF ((p.1+aN-p.2.1-p.2.2)%aN) (if p.1<p.2.1+p.2.2 then 1 else 0))) ?_
 have a:((x.toNat+aN-y.toNat-c.toNat)%aN:Nat)=(((x-y-c)%18446744073709551616:Int)):=by
  rw [Uz]
  omega
 show K (.tuple #[U ((x.toNat+aN-y.toNat-c.toNat)%aN:Nat),U ((if x.toNat<y.toNat+c.toNat then 1 else 0:Nat):Nat)]) h
 grind
def Ah(x y:Int):Int:=if x<y then -1 else if x>y then 1 else 0
def Us{h:bA}{K:VP}{x:Int}(hK:K (.bool false) h):aH prog 272 #[I x] h K:=by
 refine (fnk func272) ?_
 grind
def Ur{h:bA}{K:VP}{x:Int}(hK:K (.bool false) h):aH prog 273 #[U x] h K:=by
 refine (fnk func273) ?_
 grind
def Ut{h:bA}{K:VP}{x:Int}(hK:K (.bool false) h):aH prog 195 #[I x] h K:=by
 refine (fnk func195) ?_
 have:(x != x)=false:=by simp
 rw [this];exact hK
def Vz{h:bA}{K:VP}{x y:Int}(hK:K (I (Ah x y)) h):aH prog 244 #[I x,I y] h K:=by
 refine (fnk func244) ?_
 refine Us ⟨_,rfl,Us ⟨_,rfl,?_⟩⟩
 unfold Ah at hK
 refine B5 (fun a=>?_) (fun a=>B5 (fun b=>?_) (fun b=>?_))
 ·grind
 ·grind
 grind
def Vy{h:bA}{K:VP}{x y:Int}(hK:K (I (Ah x y)) h):aH prog 245 #[U x,U y] h K:=by
 refine (fnk func245) ?_
 refine Ur ⟨_,rfl,Ur ⟨_,rfl,?_⟩⟩
 unfold Ah at hK
 refine B5 (fun a=>?_) (fun a=>B5 (fun b=>?_) (fun b=>?_))
 ·grind
 ·grind
 grind
def Wa{h:bA}{K:VP}{x y:Int}(hK:K (I (Ah x y)) h):aH prog 134 #[I x,I y] h K:=by
 refine (fnk func134) ?_
 refine Ut ⟨_,rfl,Ut ⟨_,rfl,?_⟩⟩
 unfold Ah at hK
 refine B5 (fun a=>?_) (fun a=>B5 (fun b=>?_) (fun b=>?_))
 ·rw [iP a] at hK;exact hK
 ·rw [iN a,iP b] at hK;exact hK
 ·rw [iN a,iN b] at hK;exact hK
def Dq{h:bA}{K:VP}{x y:Int}(hx:0<=x/\x<18446744073709551616)(hy:0<=y/\y<18446744073709551616)(hK:K (.tuple #[U (x*y/18446744073709551616),U (x*y%18446744073709551616)]) h):aH prog 214 #[U x,U y] h K:=by
 refine (fnk func214) ?_
 rw [R5 hx,R5 hy]
 simp only [Me]
 obtain ⟨e,d,b,c,a⟩:=Pc hx hy (x1:=x/4294967296) (x0:=x%4294967296) (y1:=y/4294967296) (y0:=y%4294967296) o o o o
 generalize x/4294967296*(y/4294967296)=p11 at *
 generalize x/4294967296*(y%4294967296)=p10 at *
 generalize x%4294967296*(y/4294967296)=p01 at *
 generalize x%4294967296*(y%4294967296)=p00 at *
 rw [B8 (n:=p00) o o,B8 (n:=p10) o o,B8 (n:=p01) o o,B8 (n:=p11) o o]
 rw [B8 (n:=p10+p00/4294967296) o o,R5 o]
 rw [B8 (n:=(p10+p00/4294967296)%4294967296+p01) o o]
 rw [B8 (n:=p11+(p10+p00/4294967296)/4294967296) o o,B8 o o,E4]
 have:p11+(p10+p00/4294967296)/4294967296+((p10+p00/4294967296)%4294967296+p01)/4294967296=x*y/18446744073709551616:=by
  omega
 grind
def K3{h:bA}{K:VP}{x y c:Int}(hx:0<=x/\x<18446744073709551616)(hy:0<=y/\y<18446744073709551616)(hc:0<=c/\c<18446744073709551616)(hK:K (.tuple #[U ((x*y+c)%18446744073709551616),U ((x*y+c)/18446744073709551616)]) h):aH prog 261 #[U x,U y,U c] h K:=by
 have a:0<=x*y/\x*y<=18446744073709551615*18446744073709551615:=⟨aR hx.1 hy.1,cU o o hy.1 dc⟩
 refine (fnk func261) ?_
 refine Dq hx hy ⟨_,_,rfl,?_⟩
 refine Y8 o hc o ⟨_,_,rfl,?_⟩
 rw [B8 o o]
 grind
def A1k(a:Array UInt8):({ data:=a }:ByteArray)=bs a.toList:=by simp [bs]
def Vb:List UInt8:=[0,1,2,2,3,3,3,3,4,4,4,4,4,4,4,4,5,5,5,5,5,5,5,5,5,5,5,5,5,5,5,5]++aE 32 6++aE 64 7++aE 128 8
def Rw:∀ i,i<256->(Vb[i]?).map UInt8.toNat=some (H8 i):=dc
def Lb{x s:Nat}(h:2^s<=x):H8 x=s+H8 (x/2^s):=by
 have b:0<2^s:=cX dc
 have a:x/2^s≠0:=by
  simp_all
 have:=Jp (l:=x%2^s) (t:=x/2^s) (j:=s) (Nat.mod_lt _ b) a
 rw [Nat.mod_add_div] at this
 exact this
def Ko{h:bA}{K:VP}{x:Nat}(hx:x<18446744073709551616)(hK:K (I (H8 x)) h):aH prog 266 #[U x] h K:=by
 refine Ws _ ?_
 have q:∀ (y s:Nat),s<=64->aU (y:Int) (2^(min ((s:Int)).toNat 64))=((y/2^s:Nat):Int):=by
  grind
 refine ⟨fun l a=>∃ (y n:Nat),l=[U y,I n]/\a=h/\y<4294967296/\H8 x=n+H8 y/\n<=32,B5 (fun d=>?_) (fun d=>?_),?_⟩
 ·refine ⟨x/2^32,32,?_,rfl,o,Lb o,o⟩
  grind
 ·exact ⟨x,0,rfl,rfl,o,o,o⟩
 rintro g b a ⟨y,n,p,rfl,m,e,r⟩
 obtain ⟨rfl,rfl⟩:g=(y:Int)/\b=(n:Int):=gz0
 refine ⟨fun l j=>∃ (y n:Nat),l=[U y,I n]/\j=a/\y<65536/\H8 x=n+H8 y/\n<=48,B5 (fun d=>?_) (fun d=>?_),?_⟩
 ·refine ⟨y/2^16,n+16,?_,rfl,o,by rw [e,Lb (x:=y) (s:=16) o];omega,o⟩
  rw [show (16:Int)=((16:Nat):Int) from rfl,q y 16 o,B4 o o];rfl
 ·grind
 rintro g b a ⟨y,n,p,rfl,m,e,r⟩
 obtain ⟨rfl,rfl⟩:g=(y:Int)/\b=(n:Int):=gz0
 refine ⟨fun l j=>∃ (y n:Nat),l=[U y,I n]/\j=a/\y<256/\H8 x=n+H8 y/\n<=56,B5 (fun d=>?_) (fun d=>?_),?_⟩
 ·refine ⟨y/2^8,n+8,?_,rfl,o,by rw [e,Lb (x:=y) (s:=8) o];omega,o⟩
  rw [show (8:Int)=((8:Nat):Int) from rfl,q y 8 o,B4 o o];rfl
 ·grind
 rintro g b a ⟨y,n,p,rfl,m,e,r⟩
 obtain ⟨rfl,rfl⟩:g=(y:Int)/\b=(n:Int):=gz0
 rw [Iq o o,aC]
 have w:=Rw y m
 cases hc:Vb[y]? with
 | none=>grind
 | some c=>
  have i:c.toNat=H8 y:=gz0
  refine ⟨c,⟨o,?_⟩,?_⟩
  ·try unfold Qr
   rw [A1k,Jo];exact hc
  ·have u:H8 y<=8:=Y7 (k:=8) o
   rw [i,B4 (n:=((H8 y:Nat):Int)) o o,B4 o o,<- Int.natCast_add,<- e]
   exact hK
def J2{h:bA}{K:VP}{x:Nat}(hx:x<18446744073709551616)(hK:K (I ((64-H8 x:Nat):Int)) h):aH prog 258 #[U x] h K:=by
 refine (fnk func258) ?_
 refine Ko hx ⟨_,rfl,?_⟩
 have a:H8 x<=64:=Y7 (k:=64) o
 rw [B4 o o]
 have:(64:Int)-((H8 x:Nat):Int)=((64-H8 x:Nat):Int):=o
 rw [this];exact hK
def No{a b:Int}{s:Nat}(ha:0<=a)(hb:0<=b/\b<2^s)(hab:a*2^s+b<18446744073709551616):bor .u64 (a*2^s) b=a*2^s+b:=by
 have d:0<=a*2^s:=aR ha o
 rw [Po o o]
 have e:(a*2^s).toNat=2^s*a.toNat:=by
  grind
 have c:b.toNat<2^s:=by
  grind
 rw [e,Qp c,<- e];omega
def O6{s:Nat}(hs:s<=64):(2:Int)^s*2^(64-s)=18446744073709551616:=by
 rw [<- aW,show s+(64-s)=64 from o];decide
def Wu{x:Int}{s:Nat}(hs:s<=64):aU x (2^(min s 64))=x/2^s:=by
 grind
def Est.exact{B top u2 v1 v2 U V:Int}(e:Est B 1 top u2 0 v1 v2 0 U V){q:Int}(h:q*(v1*B+v2)<=top*B+u2):q*V<=U:=by
 have a:=e.hU
 have b:=e.hV
 grind
section
variable {h:bA} {K:VP}
def Vv{T u2 v1 v2 X Y:Int}{hp:bA}{J:Int->bA->Prop}(es:Est 4294967296 1 T u2 0 v1 v2 0 X Y)(_hT:T<18446744073709551616)
 (hJ:∀ q,0<=q->q*Y<=X->X<(q+1)*Y->J q hp):
 ∃ (Inv:Int->Int->bA->Prop) (mu:Int->Int->bA->Nat),Inv (T/v1) (T%v1) hp/\
  ∀ q r hp1,Inv q r hp1->(q>=4294967296->Inv q r hp1)/\0<=q/\q<=4294967297/\0<=r/\r<4294967296/\hp1=hp/\
   (q<4294967296->¬ (q*v2>4294967296*r+u2)->J q hp1)/\
   ((q>=4294967296\/q*v2>4294967296*r+u2)->1<=q/\(r+v1>=4294967296->J (q-1) hp1)/\(r+v1<4294967296->Inv (q-1) (r+v1) hp1/\mu (q-1) (r+v1) hp1<mu q r hp1)):=by
 obtain ⟨F,G⟩:=es.first
 have n:=es.init
 have D:=es.v1r
 have p:=es.v2r
 have z:=es.u2r
 have c:=es.top0
 have m:0<=T/v1:=bK c o
 have A:=aJ T v1
 have l:=aT T (show v1≠0 from o)
 have B:=aM T (show 0<v1 from o)
 refine ⟨fun q r hp1=>hp1=hp/\0<=q/\q<=4294967297/\0<=r/\r<4294967296/\q*v1+r=T/\X<(q+1)*Y,fun q _ _=>q.toNat,⟨rfl,m,o,l,o,gz0,n⟩,?_⟩
 rintro q r hp1 ⟨rfl,g,u,w,s,k,b⟩
 have key:q*(v1*4294967296+v2)=(T-r)*4294967296+q*v2:=gz0
 refine ⟨fun _=>⟨rfl,g,u,w,s,k,b⟩,g,u,w,s,rfl,fun i E=>hJ q g (es.exact o) b,fun e=>?_⟩
 have y:X<q*Y:=by
  rcases e with i|i
  ·exact es.big i
  ·exact es.low g o
 have j:1<=q:=by
  grind
 have a:X<(q-1+1)*Y:=gz0
 have d:(q-1)*v1+(r+v1)=T:=gz0
 refine ⟨j,fun C=>?_,fun C=>⟨⟨rfl,o,o,o,o,d,a⟩,gz0⟩⟩
 have x:(q-1)*(v1*4294967296+v2)=(T-(r+v1))*4294967296+(q-1)*v2:=gz0
 have i:(q-1)*v2<=4294967296*v2:=aD o p.1
 exact hJ (q-1) o (es.exact o) a
def Gt{hi lo:Int}{y:Nat}(hhi:0<=hi/\hi<y)(hlo:0<=lo/\lo<18446744073709551616)(hy:y<18446744073709551616)
 (hK:K (.tuple #[U ((hi*18446744073709551616+lo)/y),U ((hi*18446744073709551616+lo)%y)]) h):aH prog 264 #[U hi,U lo,U y] h K:=by
 refine Wt _ _ _ ?_
 unfold A03
 refine D6 (fun e=>absurd e o) (fun _=>?_)
 refine B5 (fun e=>absurd e o) (fun _=>?_)
 refine D6 (fun e=>?_) (fun a2=>?_)
 ·refine B5 (fun e=>absurd e o) (fun _=>?_)
  refine B5 (fun e=>absurd e o) (fun _=>?_)
  subst e
  rw [dD,cE] at hK
  rw [bC hlo.1,cT hlo.1,B8 (bK hlo.1 o) (cV (dB _ hlo.1) hlo.2)]
  exact hK
 refine J2 hy ⟨_,rfl,?_⟩
 have am:y≠0:=o
 obtain ⟨bf,bb⟩:=S3 am
 have az:H8 y<=64:=Y7 (k:=64) o
 have ba:1<=H8 y:=gz0
 obtain ⟨s,hs⟩:∃ s,s=64-H8 y:=⟨_,rfl⟩
 rw [<- hs]
 have a0:s<64:=o
 have m:0<(2:Int)^s:=bJ dc
 have O:=O6 (s:=s) o
 have ai:0<(2:Int)^(64-s):=bJ dc
 have ah:H8 y=64-s:=o
 have ap:(y:Int)<2^(64-s):=by
  grind
 have ac:(2:Int)^(63-s)<=y:=by
  grind
 have F:(2:Int)^s*2^(63-s)=9223372036854775808:=by
  rw [<- aW,show s+(63-s)=63 from o];decide
 have ag:B9 (s:Int)=(s:Int):=B8 o o
 have ab:B9 ((64:Int)-s)=((64-s:Nat):Int):=by rw [B8 o o];omega
 have G:(y:Int)*2^s<18446744073709551616:=by
  rw [<- O,aZ];exact bL ap m
 have ay:9223372036854775808<=(y:Int)*2^s:=by
  rw [<- F,aZ (y:Int)];exact aG ac o
 have eY:B9 ((y:Int)*2^(min s 64))=(y:Int)*2^s:=by rw [aK o,B8 o G]
 have a8:hi*2^s+2^s<=(y:Int)*2^s:=by
  have:=aD (show hi+1<=(y:Int) from o) (aO m)
  grind
 have V:0<=hi*2^s:=aR hhi.1 o
 have aa:0<=lo/2^(64-s)/\lo/2^(64-s)<2^s:=by
  refine ⟨bK hlo.1 o,bD ai ?_⟩
  omega
 have eT:bor .u64 (B9 (hi*2^(min s 64))) (aU lo (2^(min (64-s) 64)))=hi*2^s+lo/2^(64-s):=by
  rw [aK (show s<=64 from o),B8 V o,Wu o,No hhi.1 aa o]
 have eL:B9 (lo*2^(min s 64))=lo*2^s%18446744073709551616:=by rw [aK o,E4]
 have a9:0<=lo*2^s%18446744073709551616/\lo*2^s%18446744073709551616<18446744073709551616:=⟨aT _ dc,aM _ dc⟩
 have hN:(hi*18446744073709551616+lo)*2^s=(hi*2^s+lo/2^(64-s))*18446744073709551616+lo*2^s%18446744073709551616:=by
  have d1:lo*2^s/18446744073709551616=lo/2^(64-s):=by
   rw [<- O,aZ lo,Int.mul_ediv_mul_of_pos _ _ m]
  grind
 generalize hTT:hi*2^s+lo/2^(64-s)=T at *
 generalize hLL:lo*2^s%18446744073709551616=L at *
 generalize hYY:(y:Int)*2^s=Y at *
 have x:0<=T/\T<Y:=o
 unfold Oa Oc Nz Ob
 simp only [ag,ab,aC,eY,eT,eL,Me]
 rw [R5 o,R5 o]
 have e1:Est 4294967296 1 T (L/4294967296) 0 (Y/4294967296) (Y%4294967296) 0 (T*4294967296+L/4294967296) Y:=
  ⟨dc,dc,o,o,o,o,o,o,x.1,o,o⟩
 refine B5 (fun e=>absurd e o) (fun _=>?_)
 refine B5 (fun e=>absurd e o) (fun _=>?_)
 refine B5 (fun e=>absurd e o) (fun _=>?_)
 refine B5 (fun e=>absurd e o) (fun _=>?_)
 refine B5 (fun e=>absurd e o) (fun _=>?_)
 have bm:∀ {q w:Int},0<=q->q<=4294967296->0<=w->w<4294967296->0<=q*w/\q*w<18446744073709551616:=by
  intro q w a b c d
  refine ⟨aR a c,?_⟩
  have:=cU b (show w<=4294967295 from o) c dc
  omega
 refine ⟨fun l hp=>∃ q,l=[U q]/\hp=h/\0<=q/\q*Y<=T*4294967296+L/4294967296/\T*4294967296+L/4294967296<(q+1)*Y,?_,?_⟩
 ·obtain ⟨Inv,mu,i0,st⟩:=Vv (hp:=h) (J:=fun q hp=>∃ j,[U q]=[U j]/\hp=h/\0<=j/\j*Y<=T*4294967296+L/4294967296/\T*4294967296+L/4294967296<(j+1)*Y) e1 o (fun q a b c=>⟨q,rfl,rfl,a,b,c⟩)
  refine ⟨fun l hp=>∃ q r,l=[U q,U r]/\Inv q r hp,fun l hp=>mu (iAt l 0) (iAt l 1) hp,⟨T/(Y/4294967296),T%(Y/4294967296),?_,i0⟩,?_⟩
  ·have dm:=aJ T (Y/4294967296)
   have H:=bK x.1 (show 0<=Y/4294967296 from o)
   have d1:T/(Y/4294967296)<=T:=dB _ x.1
   have d2:=aT T (show Y/4294967296≠0 from o)
   rw [bC x.1,B8 (n:=T/(Y/4294967296)) H o,aZ (T/(Y/4294967296))]
   have d3:=aR (show 0<=Y/4294967296 from o) H
   rw [B8 (n:=Y/4294967296*(T/(Y/4294967296))) d3 o,B8 o o]
   have:T-Y/4294967296*(T/(Y/4294967296))=T%(Y/4294967296):=o
   rw [this]
  rintro q r u ⟨j,r',hl,hI⟩
  obtain ⟨rfl,rfl⟩:q=j/\r=r':=by simpa using hl
  obtain ⟨_,g,i,r0,r1,rfl,ok,E⟩:=st q r u hI
  have N:=bm (q:=4294967296) (w:=r) o o r0 r1
  refine ⟨fun l hp=>l=[]/\hp=u/\(q>=4294967296\/q*(Y%4294967296)>4294967296*r+L/4294967296),B5 (fun S=>⟨rfl,rfl,.inl S⟩) (fun S=>?_),?_⟩
  ·have Q:=bm (q:=q) (w:=Y%4294967296) g o o o
   rw [B8 Q.1 Q.2,B8 N.1 N.2,B8 (n:=4294967296*r+L/4294967296) o o]
   exact B5 (fun D=>⟨rfl,rfl,.inr D⟩) (fun D=>ok o D)
  ·rintro ak ⟨_,rfl,p⟩
   obtain ⟨g1,g2,X⟩:=E p
   rw [B8 (n:=r+Y/4294967296) o o,B8 (n:=q-1) o o]
   exact B5 (fun M=>g2 M) (fun M=>⟨⟨_,_,rfl,(X o).1⟩,(X o).2⟩)
 rintro i A ⟨ae,a7,rfl,aq,a5,be⟩
 obtain rfl:i=ae:=gz0
 have ax:i<4294967296:=by
  by_cases B:i<4294967296
  ·exact B
  ·have:=aD (show 4294967296<=i from o) (show 0<=Y from o);omega
 have bg:(i+1)*Y=i*Y+Y:=gz0
 have a1:0<=i*Y:=aR aq o
 have af:B9 (B9 (B9 (T*4294967296)+L/4294967296)-B9 (i*Y))=T*4294967296+L/4294967296-i*Y:=by
  simp only [E4];omega
 simp only [af]
 generalize hRR:T*4294967296+L/4294967296-i*Y=R at *
 have z:0<=R/\R<Y:=o
 refine B5 (fun e=>absurd e o) (fun _=>?_)
 have e2:Est 4294967296 1 R (L%4294967296) 0 (Y/4294967296) (Y%4294967296) 0 (R*4294967296+L%4294967296) Y:=
  ⟨dc,dc,o,o,o,o,o,o,z.1,o,o⟩
 refine ⟨fun l hp=>∃ q,l=[U q]/\hp=A/\0<=q/\q*Y<=R*4294967296+L%4294967296/\R*4294967296+L%4294967296<(q+1)*Y,?_,?_⟩
 ·obtain ⟨Inv,mu,i0,st⟩:=Vv (hp:=A) (J:=fun q hp=>∃ j,[U q]=[U j]/\hp=A/\0<=j/\j*Y<=R*4294967296+L%4294967296/\R*4294967296+L%4294967296<(j+1)*Y) e2 o (fun q a b c=>⟨q,rfl,rfl,a,b,c⟩)
  refine ⟨fun l hp=>∃ q r,l=[U r,U q]/\Inv q r hp,fun l hp=>mu (iAt l 1) (iAt l 0) hp,⟨R/(Y/4294967296),R%(Y/4294967296),?_,i0⟩,?_⟩
  ·have dm:=aJ R (Y/4294967296)
   have H:=bK z.1 (show 0<=Y/4294967296 from o)
   have d1:R/(Y/4294967296)<=R:=dB _ z.1
   have d2:=aT R (show Y/4294967296≠0 from o)
   rw [bC z.1,B8 (n:=R/(Y/4294967296)) H o,aZ (R/(Y/4294967296))]
   have d3:=aR (show 0<=Y/4294967296 from o) H
   rw [B8 (n:=Y/4294967296*(R/(Y/4294967296))) d3 o,B8 o o]
   have:R-Y/4294967296*(R/(Y/4294967296))=R%(Y/4294967296):=o
   rw [this]
  rintro r q u ⟨j,r',hl,hI⟩
  obtain ⟨rfl,rfl⟩:r=r'/\q=j:=by simpa using hl
  obtain ⟨_,g,i,r0,r1,rfl,ok,E⟩:=st q r u hI
  have N:=bm (q:=4294967296) (w:=r) o o r0 r1
  refine ⟨fun l hp=>l=[]/\hp=u/\(q>=4294967296\/q*(Y%4294967296)>4294967296*r+L%4294967296),B5 (fun S=>⟨rfl,rfl,.inl S⟩) (fun S=>?_),?_⟩
  ·have Q:=bm (q:=q) (w:=Y%4294967296) g o o o
   rw [B8 Q.1 Q.2,B8 N.1 N.2,B8 (n:=4294967296*r+L%4294967296) o o]
   exact B5 (fun D=>⟨rfl,rfl,.inr D⟩) (fun D=>ok o D)
  ·rintro ak ⟨_,rfl,p⟩
   obtain ⟨g1,g2,X⟩:=E p
   rw [B8 (n:=r+Y/4294967296) o o,B8 (n:=q-1) o o]
   exact B5 (fun M=>g2 M) (fun M=>⟨⟨_,_,rfl,(X o).1⟩,(X o).2⟩)
 rintro g bd ⟨aj,a3,rfl,ao,a6,a4⟩
 obtain rfl:g=aj:=gz0
 refine B5 (fun e=>absurd e o) (fun _=>?_)
 have ar:g<4294967296:=by
  by_cases B:g<4294967296
  ·exact B
  ·have:=aD (show 4294967296<=g from o) (show 0<=Y from o);omega
 have bc:(g+1)*Y=g*Y+Y:=gz0
 have au:0<=g*Y:=aR ao o
 have an:B9 (B9 (B9 (R*4294967296)+L%4294967296)-B9 (g*Y))=R*4294967296+L%4294967296-g*Y:=by
  simp only [E4];omega
 rw [an,B8 (n:=i*4294967296) o o,B8 (n:=i*4294967296+g) o o,Wu o]
 have aw:(hi*18446744073709551616+lo)*2^s=(i*4294967296+g)*(y*2^s)+(R*4294967296+L%4294967296-g*Y):=by
  grind
 have C:R*4294967296+L%4294967296-g*Y=(hi*18446744073709551616+lo-(i*4294967296+g)*y)*2^s:=gz0
 rw [C,dM _ (show (2:Int)^s≠0 from o)]
 have al:0<=hi*18446744073709551616+lo-(i*4294967296+g)*y:=by
  by_cases B:0<=hi*18446744073709551616+lo-(i*4294967296+g)*y
  ·exact B
  ·have:=aD (show hi*18446744073709551616+lo-(i*4294967296+g)*y <= -1 from o) (aO m);omega
 have ad:hi*18446744073709551616+lo-(i*4294967296+g)*y<y:=by
  by_cases B:hi*18446744073709551616+lo-(i*4294967296+g)*y<y
  ·exact B
  ·have:=aD (show (y:Int)<=hi*18446744073709551616+lo-(i*4294967296+g)*y from o) (aO m);omega
 have W:(hi*18446744073709551616+lo)/y=i*4294967296+g:=by
  have:hi*18446744073709551616+lo=(hi*18446744073709551616+lo-(i*4294967296+g)*y)+(i*4294967296+g)*y:=o
  rw [this,dE _ _ o,bH al ad,cE]
 have av:(hi*18446744073709551616+lo)%y=hi*18446744073709551616+lo-(i*4294967296+g)*y:=by
  rw [Int.emod_def,W,aZ (y:Int)]
 grind
end
def I4{xs:List Int}(d:Dig b64 xs)(i:Nat):0<=xs.getD i 0/\xs.getD i 0<18446744073709551616:=d.getD dc i
def Y2(c:Int):0<=c%18446744073709551616/\c%18446744073709551616<b64:=⟨aT _ dc,aM _ dc⟩
section
variable {h g:bA} {K:VP} {A B:Option bS} {ac bc:Nat}
def U5{xs:List Int}(s:SlI .u64 h A xs)(hc:xs.length<=ac)(hl:xs.length<=100000000000000)(hK:∀ m,m<=xs.length->Norm (xs.take m)->val b64 (xs.take m)=val b64 xs->K (.slice A m ac) h):aH prog 221 #[.slice A xs.length ac] h K:=by
 refine (fnk func221 [(2,[3],[],[I 0])]) ?_
 refine ⟨fun l d=>∃ m:Nat,l=[I m]/\m<=xs.length/\d=h/\val b64 (xs.take m)=val b64 xs,fun l _=>(iAt l 0).toNat,⟨xs.length,rfl,bF _,rfl,by rw [bX]⟩,?_⟩
 rintro k q ⟨m,g,c,rfl,a⟩
 obtain rfl:k=(m:Int):=gz0
 refine B5 (fun p=>?_) (fun p=>?_)
 ·obtain ⟨j,rfl⟩:∃ j,m=j+1:=⟨m-1,o⟩
  have e:B6 (((j+1:Nat):Int)-1)=(j:Int):=by rw [B4 o o];omega
  rw [e]
  have n:=H4 b64 (xs:=xs) (i:=j) o
  refine s.load rfl o o ?_
  refine D6 (fun b=>?_) (fun b=>?_)
  ·exact ⟨⟨j,rfl,o,rfl,gz0⟩,by simp only [iAt,aI];omega⟩
  ·refine ⟨⟨o,o⟩,?_⟩
   rw [F7,aC,bN,bN]
   refine hK (j+1) c ?_ a
   rw [Gz o];exact Mx b
 ·have:m=0:=o
  subst this
  refine ⟨⟨o,o⟩,?_⟩
  rw [F7,aC,bN,bN]
  exact hK 0 o Norm.nil a
def I7{xs:List Int}(s:SlI .u64 h A xs)(hd:Dig b64 xs)(hc:xs.length<=ac)(hl:xs.length<=100000000000000)(hK:∀ m,m<=xs.length->Mw h A m (val b64 xs)->K (.slice A m ac) h):aH prog 221 #[.slice A xs.length ac] h K:=by
 refine U5 s hc hl ?_
 intro m a d b
 refine hK m a ⟨xs.take m,gz0,?_,hd.take m,d,b⟩
 have:=s.cut (c:=ac) (l:=0) (m:=m) o a hc
 simpa [F7] using this
def Q6{w:Int}(hw:0<=w/\w<18446744073709551616)(hK:∀ A m c h',h.le h'->m<=c->Mw h' A m w->K (.slice A m c) h'):aH prog 233 #[U w] h K:=by
 refine (fnk func233) ?_
 refine D6 (fun e=>?_) (fun e=>?_)
 ·subst e;exact hK none 0 0 h (B3 h) (bF _) Mag.zero
 ·refine P7 J9 rfl ?_
  intro b a
  exact ⟨_,_,_,rfl,hK _ _ _ _ (Heap.le_put _ a) (bF _) ⟨[w],rfl,SlI.new h b [w] 230 _,Dig.one hw,by simpa [Norm] using e,N2 _ _⟩⟩
def F5{x y:Int}{an bn:Nat}(ma:Mw h A an x)(mb:Mw h B bn y)(hl:an<=100000000000000)(hK:K (I (Ah x y)) h):aH prog 196 #[.slice A an ac,.slice B bn bc] h K:=by
 obtain ⟨a,rfl,q,d,E,rfl⟩:=ma
 obtain ⟨b,rfl,n,c,u,rfl⟩:=mb
 refine (fnk func196 [(4,[5],[],[I 0])]) ?_
 refine T6 (fun z=>?_) (fun z=>?_)
 ·refine Vz ⟨_,rfl,?_⟩
  have:Ah (a.length:Int) (b.length:Int)=Ah (val b64 a) (val b64 b):=by
   unfold Ah
   by_cases m:a.length<b.length
   ·have:=Bs dc d c u m
    omega
   ·have:=Bs dc c d E o
    omega
  grind
 ·have p:a.length=b.length:=o
  refine ⟨fun l r=>∃ k:Nat,l=[I ((k:Int)-1)]/\k<=a.length/\r=h/\a.drop k=b.drop k,fun l _=>(iAt l 0+1).toNat,⟨a.length,?_,bF _,rfl,?_⟩,?_⟩
  ·rw [B4 o o]
  ·grind
  rintro i G ⟨k,D,F,rfl,g⟩
  obtain rfl:i=(k:Int)-1:=gz0
  refine B5 (fun m=>?_) (fun m=>?_)
  ·obtain ⟨j,rfl⟩:∃ j,k=j+1:=⟨k-1,o⟩
   have e:((j+1:Nat):Int)-1=(j:Int):=o
   rw [e]
   refine q.load rfl o o ?_
   refine n.load rfl o o ?_
   rw [aC]
   refine T6 (fun C=>?_) (fun C=>?_)
   ·refine q.load rfl o o ?_
    refine n.load rfl o o ?_
    refine Vy ⟨_,rfl,B3 _,?_⟩
    have:Ah (a.getD j 0) (b.getD j 0)=Ah (val b64 a) (val b64 b):=by
     unfold Ah
     by_cases w:a.getD j 0<b.getD j 0
     ·have:=Bq dc d c (i:=j) o o g w
      omega
     ·have:=Bq dc c d (i:=j) o o g.symm o
      omega
    grind
   ·rw [B4 o o]
    refine ⟨⟨j,rfl,o,rfl,?_⟩,by simp only [iAt,aI];omega⟩
    rw [eC (show j<a.length from o),eC (show j<b.length from o),g]
    grind
  ·have s:k=0:=o
   have:Ah (val b64 a) (val b64 a)=0:=by unfold Ah;omega
   grind
def V5{xs:List Int}{an:Nat}(s:SlI .u64 h A xs)(hn:an=xs.length)(hl:xs.length<=17500000000000)(hK:∀ A' c' h' g',h.le g'->Priv h' g' 230 1 A' xs.length c' (xs.map (bU .u64))->K (.slice A' xs.length c') h'):aH prog 229 #[.slice A an ac] h K:=by
 subst hn
 refine (fnk func229) ?_
 refine Br.of (fun e=>?_) (fun e=>?_)
 ·have k:xs=[]:=by
   rcases s with m|⟨a,l,_⟩
   ·simp_all
   grind
  subst k
  exact hK none 0 h h (B3 h) (by simpa using Priv.nil _ _ _ _)
 ·refine Va J9 ?_
  intro b i
  refine ⟨_,_,_,rfl,?_⟩
  have c:=Heap.le_put (h:=h) (b:=b) (.cells #[] 230) i
  refine Id J9 (Priv.nil _ _ _ _) (ys:=xs.map (bU .u64)) (by simp) (SlI.mono c s) (fun v g=>?_) o o ?_
  ·obtain ⟨a,_,rfl⟩:=List.mem_map.1 g;rfl
  ·intro A' c' h' g' j d
   simp only [Nat.zero_add,cH] at d ⊢
   exact ⟨_,_,_,rfl,hK _ _ _ _ (A0 c j) d⟩
variable {b:Nat} {e:cM} {pre post:List dO}
def Bh{xs ys:List Int}{an bn:Nat}(w:Win .u64 h g b e A pre xs post)(hn:an=xs.length)(sy:SlI .u64 g B ys)(hm:bn=ys.length)(dx:Dig b64 xs)(dy:Dig b64 ys)(hle:ys.length<=xs.length)(hfit:val b64 xs+val b64 ys<b64^xs.length)(hl:xs.length<=100000000000000)
 (hK:∀ xs' h',xs'.length=xs.length->Dig b64 xs'->val b64 xs'=val b64 xs+val b64 ys->Win .u64 h' g b e A pre xs' post->K (.tuple #[]) h'):aH prog 248 #[.slice A an ac,.slice B bn bc] h K:=by
 subst hn hm
 refine (fnk func248 [(2,[4,10],[],[U 0,I 0]),(7,[4,7],[],[U 0,I 0])]) ?_
 refine ⟨fun l x=>∃ (k:Nat) (c:Int) (d:List Int),l=[U c,I k]/\k<=ys.length/\d.length=xs.length/\Dig b64 d/\(0<=c/\c<=1)/\Win .u64 x g b e A pre d post/\d.drop k=xs.drop k/\val b64 (d.take k)+c*b64^k=val b64 (xs.take k)+val b64 (ys.take k),fun l _=>ys.length-(iAt l 1).toNat,⟨0,0,xs,rfl,o,rfl,dx,o,w,rfl,by rfl⟩,?_⟩
 rintro c i x ⟨k,G,d,M,Q,p,q,D,m,j,C⟩
 obtain ⟨rfl,rfl⟩:c=G/\i=(k:Int):=gz0
 refine B5 (fun L=>?_) (fun L=>?_)
 ·have S:=I4 dy k
  have E:=I4 q k
  have s:=D3 j
  have H:=C0 b64 xs k
  have T:=C0 b64 ys k
  refine (sy.mono m.le).load rfl o o ?_
  refine m.sl.load p.symm o o ?_
  simp only [aC]
  refine Y8 E S D ⟨_,_,rfl,?_⟩
  obtain ⟨a,y,_⟩:=SlV.at m.sl (i:=k) gz0
  refine ⟨a,y,o,o,m.storeN (i:=k) E3 y o ?_⟩
  intro h' F
  rw [B4 (n:=(k:Int)+1) o o]
  refine ⟨⟨k+1,_,_,rfl,o,gz0,q.set (Y2 _),o,F,?_,?_⟩,by simp only [iAt,aI,aQ];omega⟩
  ·rw [C8 o];exact D0 j
  ·rw [C5 o,D8,aP,aK o,bG,R4,H,T,<- s]
   grind
 ·have r:k=ys.length:=o
  subst r
  rw [bX] at C
  refine ⟨fun l x=>∃ (k:Nat) (c:Int) (d:List Int),l=[U c,I k]/\ys.length<=k/\k<=xs.length/\d.length=xs.length/\Dig b64 d/\(0<=c/\c<=1)/\Win .u64 x g b e A pre d post/\d.drop k=xs.drop k/\val b64 (d.take k)+c*b64^k=val b64 (xs.take k)+val b64 ys,fun l _=>xs.length-(iAt l 1).toNat,⟨ys.length,c,d,rfl,o,o,p,q,D,m,j,C⟩,?_⟩
  rintro c i x ⟨k,G,d,M,R,Q,p,q,D,m,j,C⟩
  obtain ⟨rfl,rfl⟩:c=G/\i=(k:Int):=gz0
  have z:=D9 b64 d (i:=k) o
  have u:=D9 b64 xs (i:=k) o
  refine T6 (fun O=>B5 (fun L=>?_) (fun L=>?_)) (fun O=>?_)
  ·have E:=I4 q k
   have s:=D3 j
   have H:=C0 b64 xs k
   refine m.sl.load p.symm o o ?_
   simp only [aC]
   refine Y8 E o D ⟨_,_,rfl,?_⟩
   obtain ⟨a,y,_⟩:=SlV.at m.sl (i:=k) gz0
   refine ⟨a,y,o,o,m.storeN (i:=k) E3 y o ?_⟩
   intro h' F
   rw [B4 (n:=(k:Int)+1) o o]
   refine ⟨⟨k+1,_,_,rfl,o,o,gz0,q.set (Y2 _),o,F,?_,?_⟩,by simp only [iAt,aI,aQ];omega⟩
   ·rw [C8 o];exact D0 j
   ·rw [C5 o,D8,aP,aK o,bG,R4,H,<- s]
    grind
  ·exfalso
   have r:k=xs.length:=o
   subst r
   have N:c=1:=o
   subst N
   rw [bX] at C
   have:=C2 dc (q.take xs.length)
   omega
  grind
def Ek{xs ys:List Int}{an bn:Nat}(w:Win .u64 h g b e A pre xs post)(hn:an=xs.length)(sy:SlI .u64 g B ys)(hm:bn=ys.length)(dx:Dig b64 xs)(dy:Dig b64 ys)(hle:ys.length<=xs.length)(hfit:val b64 ys<=val b64 xs)(hl:xs.length<=100000000000000)
 (hK:∀ xs' h',xs'.length=xs.length->Dig b64 xs'->val b64 xs'=val b64 xs-val b64 ys->Win .u64 h' g b e A pre xs' post->K (.tuple #[]) h'):aH prog 249 #[.slice A an ac,.slice B bn bc] h K:=by
 subst hn hm
 refine (fnk func249 [(2,[4,10],[],[U 0,I 0]),(7,[4,7],[],[U 0,I 0])]) ?_
 have key:∀ {z y c:Int},(0<=z/\z<18446744073709551616)->(0<=y/\y<18446744073709551616)->(0<=c/\c<=1)->(z-y-c)%18446744073709551616=z-y-c+18446744073709551616*(if z-y-c<0 then 1 else 0):=by
  omega
 refine ⟨fun l C=>∃ (k:Nat) (c:Int) (d:List Int),l=[U c,I k]/\k<=ys.length/\d.length=xs.length/\Dig b64 d/\(0<=c/\c<=1)/\Win .u64 C g b e A pre d post/\d.drop k=xs.drop k/\val b64 (d.take k)=val b64 (xs.take k)-val b64 (ys.take k)+c*b64^k,fun l _=>ys.length-(iAt l 1).toNat,⟨0,0,xs,rfl,o,rfl,dx,o,w,rfl,by rfl⟩,?_⟩
 rintro c i C ⟨k,H,d,O,S,p,q,s,m,j,D⟩
 obtain ⟨rfl,rfl⟩:c=H/\i=(k:Int):=gz0
 refine B5 (fun N=>?_) (fun N=>?_)
 ·have Q:=I4 dy k
  have x:=I4 q k
  have r:=D3 j
  have L:=C0 b64 xs k
  have V:=C0 b64 ys k
  refine (sy.mono m.le).load rfl o o ?_
  refine m.sl.load p.symm o o ?_
  simp only [aC]
  refine X5 x Q s ⟨_,_,rfl,?_⟩
  obtain ⟨a,E,_⟩:=SlV.at m.sl (i:=k) gz0
  refine ⟨a,E,o,o,m.storeN (i:=k) E3 E o ?_⟩
  intro h' G
  rw [B4 (n:=(k:Int)+1) o o]
  refine ⟨⟨k+1,_,_,rfl,o,by simp_all,q.set (Y2 _),o,G,?_,?_⟩,by simp only [iAt,aI,aQ];omega⟩
  ·rw [C8 o];exact D0 j
  ·rw [C5 o,D8,aP,aK o,bG,L,V,<- r,D,key x Q s]
   grind
 ·have M:k=ys.length:=o
  subst M
  rw [bX] at D
  refine ⟨fun l C=>∃ (k:Nat) (c:Int) (d:List Int),l=[U c,I k]/\ys.length<=k/\k<=xs.length/\d.length=xs.length/\Dig b64 d/\(0<=c/\c<=1)/\Win .u64 C g b e A pre d post/\d.drop k=xs.drop k/\val b64 (d.take k)=val b64 (xs.take k)-val b64 ys+c*b64^k,fun l _=>xs.length-(iAt l 1).toNat,⟨ys.length,c,d,rfl,o,o,p,q,s,m,j,D⟩,?_⟩
  rintro c i C ⟨k,H,d,O,T,S,p,q,s,m,j,D⟩
  obtain ⟨rfl,rfl⟩:c=H/\i=(k:Int):=gz0
  have F:=D9 b64 d (i:=k) o
  have u:=D9 b64 xs (i:=k) o
  refine T6 (fun R=>B5 (fun N=>?_) (fun N=>?_)) (fun R=>?_)
  ·have x:=I4 q k
   have r:=D3 j
   have L:=C0 b64 xs k
   refine m.sl.load p.symm o o ?_
   simp only [aC]
   refine X5 x o s ⟨_,_,rfl,?_⟩
   obtain ⟨a,E,_⟩:=SlV.at m.sl (i:=k) gz0
   refine ⟨a,E,o,o,m.storeN (i:=k) E3 E o ?_⟩
   intro h' G
   rw [B4 (n:=(k:Int)+1) o o]
   refine ⟨⟨k+1,_,_,rfl,o,o,gz0,q.set (Y2 _),o,G,?_,?_⟩,by simp only [iAt,aI,aQ];omega⟩
   ·rw [C8 o];exact D0 j
   ·rw [C5 o,D8,aP,aK o,bG,L,<- r,D,key x (y:=0) o s]
    grind
  ·exfalso
   have:=H1 dc (q.take xs.length)
   grind
  grind
def Ld{x y:Int}{an bn:Nat}(ma:Mw h A an x)(mb:Mw h B bn y)(hab:bn<=an)(hl:an<=30000000000000)(hb0:bn≠0)(hK:∀ A' m c' h',h.le h'->m<=c'->Mw h' A' m (x+y)->K (.slice A' m c') h'):
 wpH prog (cJ 89 (I (B6 ((an:Int)+1))) (I (B6 ((an:Int)+1)))) (fun v hp1=>∃ (t20A:Option bS) (t20n:Nat) (t20c:Nat),v= .slice t20A t20n t20c/\∀ ty,wpH prog (bW #[89,89] ty #[.slice t20A t20n t20c,.slice A an ac]) (fun v1 hp2=>∃ (t23:Int),v1=I t23/\aH prog 248 #[.slice t20A t20n t20c,.slice B bn bc] hp2 (fun r hp3=>r= .tuple #[]/\aH prog 221 #[.slice t20A t20n t20c] hp3 (fun r1 hp4=>∃ (t28A:Option bS) (t28n:Nat) (t28c:Nat),r1= .slice t28A t28n t28c/\K (.slice t28A t28n t28c) hp4))) hp1) h:=by
 obtain ⟨a,rfl,F,q,Q,rfl⟩:=ma
 obtain ⟨O,rfl,C,n,M,rfl⟩:=mb
 have H:B6 ((a.length:Int)+1)=((a.length+1:Nat):Int):=by rw [B4 o o];omega
 rw [H]
 refine H0 J9 o o o ?_
 intro b w
 refine ⟨_,_,_,rfl,fun ty=>?_⟩
 have l:=Win.blk .u64 230 w (aE (a.length+1) 0)
 refine Bf J9 l (by simp) (SlI.mono l.le F) rfl (by simp) ?_
 intro N j
 refine ⟨_,rfl,?_⟩
 have c:(aE (a.length+1) (0:Int)).drop a.length=[0]:=by simp_all
 rw [c] at j
 have e:val b64 (a++[0])=val b64 a:=by rw [D8];omega
 have s:=H1 dc q
 have E:=H1 dc n
 have u:=C7 (B:=b64) dc hab
 refine Bh j (by simp) C rfl (q.append (Dig.one dc)) n gz0 ?_ gz0 ?_
 ·grind
 intro z L D g i p
 refine ⟨rfl,?_⟩
 have d:z.length=a.length+1:=gz0
 rw [<- d]
 refine I7 p.sl g o o ?_
 intro m G k
 rw [i,e] at k
 exact ⟨_,_,_,rfl,hK _ _ _ _ p.le G k⟩
def J4{x y:Int}{an bn:Nat}(ma:Mw h A an x)(mb:Mw h B bn y)(ha:an<=ac)(hb:bn<=bc)(hl:an<=30000000000000)(hl2:bn<=30000000000000)(hK:∀ A' m c' h',h.le h'->m<=c'->Mw h' A' m (x+y)->K (.slice A' m c') h'):aH prog 198 #[.slice A an ac,.slice B bn bc] h K:=by
 refine (fnk func198 (cs:=[(3,[0,1],[],[.slice none 0 0,.slice none 0 0])]) (wr:=[248])) ?_
 refine ⟨fun l h'=>h'=h/\∃ (A1 B1:Option bS) (a c b d:Nat) (q j:Int),l=[.slice A1 a b,.slice B1 c d]/\Mw h A1 a q/\Mw h B1 c j/\c<=a/\a<=30000000000000/\a<=b/\q+j=x+y,B5 (fun z=>?_) (fun z=>?_),?_⟩
 ·grind
 ·grind
 ·rintro A1 a b B1 c d E ⟨rfl,A1',B1',p,e,g,k,q,j,D,u,s,C,i,r,n⟩
  obtain ⟨⟨rfl,rfl,rfl⟩,rfl,rfl,rfl⟩:(A1=A1'/\a=p/\b=g)/\B1=B1'/\c=e/\d=k:=gz0
  rw [<- n] at hK
  refine D6 (fun w=>?_) (fun w=>?_)
  ·have:=(s.len_zero dc).2 o
   subst this
   rw [dS] at hK
   exact hK _ _ _ _ (B3 _) r u
  ·refine Cx _ (Ld (ac:=b) (bc:=d) u s C i o hK) ?_
   grind
def E7{x y:Int}{an bn:Nat}(ma:Mw h A an x)(mb:Mw h B bn y)(ha:an<=ac)(hl:an<=17500000000000)(hxy:y<=x)(hK:∀ A' m c' h',h.le h'->m<=c'->Mw h' A' m (x-y)->K (.slice A' m c') h'):aH prog 199 #[.slice A an ac,.slice B bn bc] h K:=by
 have g:bn<=an:=mb.len_le dc (cV hxy (ma.lt dc))
 refine (fnk func199 (wr:=[249])) ?_
 refine D6 (fun p=>?_) (fun p=>?_)
 ·have:=(mb.len_zero dc).2 o
  subst this
  rw [Int.sub_zero] at hK
  exact hK _ _ _ _ (B3 _) ha ma
 ·obtain ⟨G,rfl,r,u,M,rfl⟩:=ma
  obtain ⟨L,rfl,q,s,C,rfl⟩:=mb
  refine V5 r rfl o ?_
  intro A1 E D F k e
  refine ⟨_,_,_,rfl,?_⟩
  obtain ⟨b,j,n⟩:=e.win gz0
  refine Ek n rfl (q.mono k) rfl u s g hxy o ?_
  intro z w c a d l
  refine ⟨rfl,?_⟩
  rw [<- c]
  refine I7 l.sl a (by have:=e.2.1;omega) o ?_
  intro m H i
  rw [d] at i
  exact ⟨_,_,_,rfl,hK _ _ _ _ (A0 k l.le) (by have:=e.2.1;omega) i⟩
def If{zs xs:List Int}{an bn:Nat}{wd:Int}(w:Win .u64 h g b e A pre zs post)(hn:an=zs.length)(sx:SlI .u64 g B xs)(hm:bn=xs.length)(dz:Dig b64 zs)(dx:Dig b64 xs)(hle:zs.length=xs.length)(hw:0<=wd/\wd<18446744073709551616)(hl:xs.length<=100000000000000)
 (hK:∀ zs' c h',zs'.length=zs.length->Dig b64 zs'->(0<=c/\c<18446744073709551616)->val b64 zs'+c*b64^zs.length=val b64 zs+val b64 xs*wd->Win .u64 h' g b e A pre zs' post->K (U c) h'):aH prog 246 #[.slice A an ac,.slice B bn bc,U wd] h K:=by
 subst hn hm
 refine (fnk func246 [(3,[7,16],[],[U 0,I 0])]) ?_
 refine ⟨fun l s=>∃ (k:Nat) (c:Int) (d:List Int),l=[U c,I k]/\k<=xs.length/\d.length=zs.length/\Dig b64 d/\(0<=c/\c<18446744073709551616)/\Win .u64 s g b e A pre d post/\d.drop k=zs.drop k/\val b64 (d.take k)+c*b64^k=val b64 (zs.take k)+val b64 (xs.take k)*wd,fun l _=>xs.length-(iAt l 1).toNat,⟨0,0,zs,rfl,o,rfl,dz,o,w,rfl,by simp [val]⟩,?_⟩
 rintro c i s ⟨k,C,d,G,L,p,r,H,m,j,M⟩
 obtain ⟨rfl,rfl⟩:c=C/\i=(k:Int):=gz0
 refine B5 (fun E=>?_) (fun E=>?_)
 ·have u:=I4 dx k
  have y:=I4 r k
  have q:=D3 j
  have D:=C0 b64 xs k
  have F:=C0 b64 zs k
  have hm:0<=xs.getD k 0*wd/\xs.getD k 0*wd<=18446744073709551615*18446744073709551615:=⟨aR u.1 hw.1,cU o o hw.1 dc⟩
  refine (sx.mono m.le).load rfl o o ?_
  rw [aC]
  refine Dq u hw ⟨_,_,rfl,?_⟩
  generalize hmm:xs.getD k 0*wd=mm at *
  refine Y8 o H o ⟨_,_,rfl,?_⟩
  refine m.sl.load p.symm o o ?_
  rw [aC]
  refine Y8 y o o ⟨_,_,rfl,?_⟩
  obtain ⟨a,x,_⟩:=SlV.at m.sl (i:=k) gz0
  refine ⟨a,x,o,o,m.storeN (i:=k) E3 x o ?_⟩
  intro h' z
  rw [B4 (n:=(k:Int)+1) o o]
  rw [B8 (n:=mm/18446744073709551616+(mm%18446744073709551616+c+0)/18446744073709551616) o o]
  rw [B8 o o]
  refine ⟨⟨k+1,_,_,rfl,o,gz0,r.set (Y2 _),o,z,?_,?_⟩,by simp only [iAt,aI,aQ];omega⟩
  ·rw [C8 o];exact D0 j
  ·rw [C5 o,D8,aP,aK o,bG,D,F,<- q]
   grind
 grind
def Ca{zs xs:List Int}{an bn:Nat}{wd:Int}(w:Win .u64 h g b e A pre zs post)(hn:an=zs.length)(sx:SlI .u64 g B xs)(hm:bn=xs.length)(dz:Dig b64 zs)(dx:Dig b64 xs)(hle:zs.length=xs.length)(hw:0<=wd/\wd<18446744073709551616)(hl:xs.length<=100000000000000)
 (hK:∀ zs' c h',zs'.length=zs.length->Dig b64 zs'->(0<=c/\c<18446744073709551616)->val b64 zs'=val b64 zs-val b64 xs*wd+c*b64^zs.length->Win .u64 h' g b e A pre zs' post->K (U c) h'):aH prog 284 #[.slice A an ac,.slice B bn bc,U wd] h K:=by
 subst hn hm
 refine (fnk func284 [(3,[7,16],[],[U 0,I 0])]) ?_
 refine ⟨fun l s=>∃ (k:Nat) (c:Int) (d:List Int),l=[U c,I k]/\k<=xs.length/\d.length=zs.length/\Dig b64 d/\(0<=c/\c<18446744073709551616)/\Win .u64 s g b e A pre d post/\d.drop k=zs.drop k/\val b64 (d.take k)=val b64 (zs.take k)-val b64 (xs.take k)*wd+c*b64^k,fun l _=>xs.length-(iAt l 1).toNat,⟨0,0,zs,rfl,o,rfl,dz,o,w,rfl,by simp [val]⟩,?_⟩
 rintro c i s ⟨k,C,d,H,M,p,r,L,m,j,G⟩
 obtain ⟨rfl,rfl⟩:c=C/\i=(k:Int):=gz0
 refine B5 (fun E=>?_) (fun E=>?_)
 ·have u:=I4 dx k
  have y:=I4 r k
  have q:=D3 j
  have D:=C0 b64 xs k
  have F:=C0 b64 zs k
  have hm:0<=xs.getD k 0*wd/\xs.getD k 0*wd<=18446744073709551615*18446744073709551615:=⟨aR u.1 hw.1,cU o o hw.1 dc⟩
  refine (sx.mono m.le).load rfl o o ?_
  rw [aC]
  refine Dq u hw ⟨_,_,rfl,?_⟩
  generalize hmm:xs.getD k 0*wd=mm at *
  refine Y8 o L o ⟨_,_,rfl,?_⟩
  refine m.sl.load p.symm o o ?_
  rw [aC]
  refine X5 y o o ⟨_,_,rfl,?_⟩
  obtain ⟨a,x,_⟩:=SlV.at m.sl (i:=k) gz0
  refine ⟨a,x,o,o,m.storeN (i:=k) E3 x o ?_⟩
  intro h' z
  rw [B4 (n:=(k:Int)+1) o o]
  rw [B8 (n:=mm/18446744073709551616+(mm%18446744073709551616+c+0)/18446744073709551616) o o]
  rw [B8 o o]
  refine ⟨⟨k+1,_,_,rfl,o,gz0,r.set (Y2 _),o,z,?_,?_⟩,by simp only [iAt,aI,aQ];omega⟩
  ·rw [C8 o];exact D0 j
  ·rw [C5 o,D8,aP,aK o,bG,D,F,<- q,G]
   have key:(d.getD k 0-(mm%18446744073709551616+c+0)%18446744073709551616-0)%18446744073709551616=d.getD k 0-mm-c+18446744073709551616*(mm/18446744073709551616+(mm%18446744073709551616+c+0)/18446744073709551616+(if d.getD k 0-(mm%18446744073709551616+c+0)%18446744073709551616-0<0 then 1 else 0)):=o
   grind
 grind
end
def Je{x z:Int}{s:Nat}(hs:s<=64)(_hx:0<=x/\x<18446744073709551616)(hz:0<=z/\z<(2:Int)^s):
 bor .u64 z (x*2^s%18446744073709551616)=z+x*2^s%18446744073709551616/\z+x*2^s%18446744073709551616<18446744073709551616/\x*2^s%18446744073709551616=2^s*(x%2^(64-s)):=by
 have i:=O6 hs
 have c:0<(2:Int)^s:=bJ dc
 have l:0<(2:Int)^(64-s):=bJ dc
 have a:z<18446744073709551616:=by
  have:(2:Int)^s*1<=2^s*2^(64-s):=aG o o
  omega
 have j:x*2^s%18446744073709551616=2^s*(x%2^(64-s)):=by
  rw [<- i,aZ x,Int.mul_emod_mul_of_pos _ _ c]
 have e:=Y2 (x*2^s)
 have k:0<=x%2^(64-s):=aT _ o
 have g:(x*2^s%18446744073709551616).toNat=2^s*(x%2^(64-s)).toNat:=by
  grind
 have d:z.toNat<2^s:=by
  grind
 have b:bor .u64 z (x*2^s%18446744073709551616)=z+x*2^s%18446744073709551616:=by
  rw [Po ⟨hz.1,a⟩ e,g,Nat.or_comm,Qp d,<- g]
  omega
 refine ⟨b,?_,j⟩
 rw [<- b,Po ⟨hz.1,a⟩ e]
 have:z.toNat ||| (x*2^s%18446744073709551616).toNat<2^64:=Nat.or_lt_two_pow o o
 omega
def Aw(k:Nat):b64^k=(2:Int)^(64*k):=by
 rw [show b64=(2:Int)^64 from dc,<- Int.pow_mul]
section
variable {h g:bA} {K:VP} {A B:Option bS} {ac bc:Nat}
def L5{x:Int}{an s:Nat}(ma:Mw h A an x)(ha:an<=ac)(hl:an<=20000000000000)(hs:s<=100000000000000)(hK:∀ A' m c' h',h.le h'->m<=c'->Mw h' A' m (x*2^s)->K (.slice A' m c') h'):aH prog 276 #[.slice A an ac,U s] h K:=by
 have p:=ma.len_zero dc
 refine (fnk func276 [(6,[31],[],[I 0])]) ?_
 refine D6 (fun E=>?_) (fun E=>D6 (fun j=>?_) (fun j=>?_))
 ·have:=p.2 o
  subst this
  rw [dD] at hK
  exact hK _ _ _ _ (B3 _) ha ma
 ·have:s=0:=o
  subst this
  rw [eO,Int.mul_one] at hK
  exact hK _ _ _ _ (B3 _) ha ma
 ·obtain ⟨a,rfl,X,dx,nx,rfl⟩:=ma
  obtain ⟨k0,hk0⟩:∃ k0,k0=s/64:=⟨_,rfl⟩
  obtain ⟨r,hr⟩:∃ r,r=s%64:=⟨_,rfl⟩
  have ed:B6 (B9 (aF (s:Int) 64))=(k0:Int):=by
   rw [bC o,B8 o o,B4 o o];omega
  have T:aL (s:Int) 64=(r:Int):=gz0
  have D:B9 ((64:Int)-(r:Int))=((64-r:Nat):Int):=by rw [B8 o o];omega
  simp only [ed,T,D,aC]
  have e1:B6 (B6 ((a.length:Int)+k0)+1)=((a.length+k0+1:Nat):Int):=by rw [B4 (n:=(a.length:Int)+k0) o o,B4 o o];omega
  rw [e1]
  refine H0 J9 o o o ?_
  intro b F
  rw [aC]
  refine ⟨_,_,_,rfl,?_⟩
  have aa:0<(2:Int)^r:=bJ dc
  have q:0<(2:Int)^(64-r):=bJ dc
  have N:=O6 (s:=r) o
  refine ⟨fun l h'=>∃ (k:Nat) (zs:List Int),l=[I k]/\k<=a.length/\zs.length=a.length+k0+1/\Dig b64 zs/\h'=blk .u64 230 h b zs/\zs.drop (k+k0+1)=aE (a.length-k) 0/\zs.getD (k+k0) 0<2^r/\val b64 (zs.take (k+k0+1))=val b64 (a.take k)*2^s,fun l _=>a.length-(iAt l 0).toNat,⟨0,_,rfl,o,by simp,F3 dc _,rfl,?_,?_,?_⟩,?_⟩
  ·grind
  ·grind
  ·rw [cG,R7];simp [val]
  rintro i hp ⟨k,zs,ad,hk,c,d,rfl,u,G,z⟩
  obtain rfl:i=(k:Int):=gz0
  have w:=V8 (k:=.u64) (e:=230) F zs
  refine B5 (fun j=>?_) (fun j=>?_)
  ·have y:=I4 dx k
   have C:=I4 d (k+k0)
   have H:=C0 b64 a k
   have vz:=C0 b64 zs (k+k0)
   have R:B6 ((k:Int)+k0)=((k+k0:Nat):Int):=by rw [B4 o o];omega
   have e3:B6 (((k+k0:Nat):Int)+1)=((k+k0+1:Nat):Int):=by rw [B4 o o];omega
   rw [R,e3]
   refine (X.mono w).load rfl o o ?_
   refine (V7 .u64 230 h b zs).load c.symm o o ?_
   simp only [aC]
   refine B5 (fun e=>absurd e o) (fun _=>?_)
   refine ⟨_,rfl,o,o,?_⟩
   obtain ⟨S,Q,o3⟩:=Je (s:=r) o y ⟨C.1,G⟩
   rw [aK (show r<=64 from o),E4,S,Wu (show 64-r<=64 from o)]
   have O:=Y2 (a.getD k 0*2^r)
   refine V6 (zs:=zs) (i:=k+k0) E3 o ?_
   refine B5 (fun e=>absurd e o) (fun _=>?_)
   refine ⟨_,rfl,o,o,?_⟩
   refine V6 (zs:=zs.set (k+k0) (zs.getD (k+k0) 0+a.getD k 0*2^r%18446744073709551616)) (i:=k+k0+1) E3 gz0 ?_
   have M:0<=a.getD k 0/2^(64-r)/\a.getD k 0/2^(64-r)<2^r:=⟨bK y.1 o,bD q o⟩
   have V:(2:Int)^r<=9223372036854775808:=by
    have:=C7 (B:=2) dc (show r<=63 from o)
    omega
   rw [B4 (n:=(k:Int)+1) o o]
   refine ⟨⟨k+1,(zs.set (k+k0) (zs.getD (k+k0) 0+a.getD k 0*2^r%18446744073709551616)).set (k+k0+1) (a.getD k 0/2^(64-r)),rfl,o,gz0,(d.set ⟨o,Q⟩).set ⟨M.1,gz0⟩,rfl,?_,?_,?_⟩,by simp only [iAt,aI];omega⟩
   ·rw [show k+1+k0+1=(k+k0+1)+1 from o,C8 o,C8 o,<- cL,u,bI]
    congr 1
   ·grind
   ·rw [show k+1+k0+1=(k+k0+1)+1 from o,C5 gz0,D8,C5 o,D8]
    simp only [aP,bB,List.length_singleton]
    rw [aK (show k+k0<=zs.length from o),bG,H]
    rw [vz] at z
    have ab:(2:Int)^s=b64^k0*2^r:=by
     rw [Aw,<- aW];congr 1;omega
    have W:b64^(k+k0)=b64^k*b64^k0:=aW _ _ _
    have L:=aJ (a.getD k 0) (2^(64-r))
    grind
  ·have g:k=a.length:=o
   subst g
   rw [bX,aX o] at z
   rw [<- c]
   refine I7 (V7 _ _ _ _ _) d (bF _) o ?_
   grind
def Y9{x:Int}{an s:Nat}(ma:Mw h A an x)(hl:an<=20000000000000)(hs:s<=1000000000000000)(hK:∀ A' m c' h',h.le h'->m<=c'->Mw h' A' m (x/2^s)->K (.slice A' m c') h'):aH prog 281 #[.slice A an ac,U s] h K:=by
 have Q:=ma.nonneg dc
 have X:=ma.lt dc
 refine (fnk func281 [(6,[27],[],[I 0])]) ?_
 obtain ⟨k0,hk0⟩:∃ k0,k0=s/64:=⟨_,rfl⟩
 obtain ⟨r,hr⟩:∃ r,r=s%64:=⟨_,rfl⟩
 have O:B9 (aF (s:Int) 64)=(k0:Int):=by
  rw [bC o,B8 o o];omega
 have C:B6 (k0:Int)=(k0:Int):=B4 o o
 have em:aL (s:Int) 64=(r:Int):=gz0
 have er:B9 ((64:Int)-(r:Int))=((64-r:Nat):Int):=by rw [B8 o o];omega
 have en:B9 (an:Int)=(an:Int):=B8 o o
 simp only [O,C,em,er,en,aC]
 have n:(2:Int)^s=b64^k0*2^r:=by
  rw [Aw,<- aW];grind
 refine B5 (fun h1=>?_) (fun h1=>?_)
 ·have:x/2^s=0:=by
   apply bH Q
   rw [n]
   have G:=C7 (B:=b64) dc (show an<=k0 from o)
   have R:b64^k0*1<=b64^k0*2^r:=aG (by have:0<(2:Int)^r:=bJ dc;omega) (aO (C9 dc _))
   omega
  rw [this] at hK
  exact hK _ _ _ _ (B3 _) (bF _) Mag.zero
 ·obtain ⟨a,rfl,V,q,nx,rfl⟩:=ma
  have e1:B6 ((a.length:Int)-k0)=((a.length-k0:Nat):Int):=by rw [B4 o o];omega
  rw [e1]
  refine H0 J9 o o o ?_
  intro b hb
  rw [aC]
  refine ⟨_,_,_,rfl,?_⟩
  have T:0<(2:Int)^r:=bJ dc
  have j:=O6 (s:=r) o
  have N:0<(2:Int)^(64-r):=bJ dc
  have ad:(a.drop k0).length=a.length-k0:=bY
  have d:∀ i,(a.drop k0).getD i 0=a.getD (k0+i) 0:=fun i=>Nj
  refine ⟨fun l h'=>∃ (k:Nat) (zs:List Int),l=[I k]/\k<=a.length-k0/\zs.length=a.length-k0/\Dig b64 zs/\h'=blk .u64 230 h b zs/\2^r*val b64 (zs.take k)+(a.drop k0).getD 0 0%2^r=val b64 ((a.drop k0).take k)+b64^k*((a.drop k0).getD k 0%2^r),fun l _=>a.length-(iAt l 0).toNat,⟨0,_,rfl,o,by simp,F3 dc _,rfl,by simp [val]⟩,?_⟩
  rintro i ab ⟨k,zs,ah,hk,F,u,rfl,W⟩
  obtain rfl:i=(k:Int):=gz0
  have p:∀ zs,h.le (blk .u64 230 h b zs):=fun zs=>V8 (k:=.u64) (e:=230) hb zs
  have gz:=I4 (q.drop k0) k
  refine B5 (fun h2=>?_) (fun h2=>?_)
  ·have e2:B6 ((k:Int)+k0)=((k0+k:Nat):Int):=by rw [B4 o o];omega
   have e3:B6 (((k0+k:Nat):Int)+1)=((k0+(k+1):Nat):Int):=by rw [B4 o o];omega
   rw [e2,e3]
   refine (V.mono (p zs)).load rfl o o ?_
   refine B5 (fun e=>absurd e o) (fun _=>?_)
   refine ⟨_,rfl,o,o,?_⟩
   simp only [aC]
   rw [<- d k,Wu (show r<=64 from o)]
   have g:0<=(a.drop k0).getD k 0/2^r:=bK gz.1 o
   have y:(a.drop k0).getD k 0/2^r<2^(64-r):=by
    apply bD T
    grind
   have S:(2:Int)^(64-r)<=18446744073709551616:=by
    rw [<- j]
    have:=aD (show 1<=(2:Int)^r from o) (aO N);omega
   refine V6 (zs:=zs) (i:=k) E3 o ?_
   have d1:Dig b64 (zs.set k ((a.drop k0).getD k 0/2^r)):=u.set ⟨g,gz0⟩
   have l1:(zs.set k ((a.drop k0).getD k 0/2^r)).length=a.length-k0:=gz0
   have g1:(zs.set k ((a.drop k0).getD k 0/2^r)).getD k 0=(a.drop k0).getD k 0/2^r:=gz0
   have vr:=C0 b64 (a.drop k0) k
   have c:∀ z:Int,2^r*z=(a.drop k0).getD k 0-(a.drop k0).getD k 0%2^r+18446744073709551616*((a.drop k0).getD (k+1) 0%2^r)->
    2^r*val b64 ((zs.set k z).take (k+1))+(a.drop k0).getD 0 0%2^r=val b64 ((a.drop k0).take (k+1))+b64^(k+1)*((a.drop k0).getD (k+1) 0%2^r):=by
    intro z ez
    rw [C5 o,D8,aP,aK o,vr,bG]
    grind
   have ae:=aJ ((a.drop k0).getD k 0) (2^r)
   have E:B6 ((k:Int)+1)=((k+1:Nat):Int):=by rw [B4 o o];omega
   rw [E]
   refine B5 (fun h3=>?_) (fun h3=>?_)
   ·have ld:=(V7 .u64 230 h b (zs.set k ((a.drop k0).getD k 0/2^r)))
    obtain ⟨aa,L,af⟩:=SlV.at ld (i:=k) gz0
    refine ⟨aa,L,o,o,(a.drop k0).getD k 0/2^r,?_,?_⟩
    ·grind
    refine (V.mono (p _)).load rfl o o ?_
    refine B5 (fun e=>absurd e o) (fun _=>?_)
    refine ⟨_,rfl,o,o,?_⟩
    simp only [aC]
    rw [<- d (k+1)]
    have gr:=I4 (q.drop k0) (k+1)
    obtain ⟨o1,o2,o3⟩:=Je (s:=64-r) o gr ⟨g,y⟩
    rw [aK (show 64-r<=64 from o),E4,o1]
    refine V6 (zs:=zs.set k ((a.drop k0).getD k 0/2^r)) (i:=k) E3 o ?_
    rw [List.set_set]
    have ag:=Y2 ((a.drop k0).getD (k+1) 0*2^(64-r))
    refine ⟨⟨k+1,zs.set k ((a.drop k0).getD k 0/2^r+(a.drop k0).getD (k+1) 0*2^(64-r)%18446744073709551616),rfl,o,gz0,u.set ⟨o,o2⟩,rfl,c _ ?_⟩,by simp only [iAt,aI];omega⟩
    rw [o3,show 64-(64-r)=r from o,cQ,<- cO,j]
    omega
   ·have w:(a.drop k0).getD (k+1) 0=0:=gz0
    refine ⟨⟨k+1,zs.set k ((a.drop k0).getD k 0/2^r),rfl,o,l1,d1,rfl,c _ ?_⟩,by simp only [iAt,aI];omega⟩
    rw [w,eD,dQ,dS];omega
  ·have D:k=a.length-k0:=o
   subst D
   have w:(a.drop k0).getD (a.length-k0) 0=0:=gz0
   rw [w,eD,dQ,dS,aX o,aX o] at W
   have H:=aT ((a.drop k0).getD 0 0) (show (2:Int)^r≠0 from o)
   have M:=aM ((a.drop k0).getD 0 0) T
   have ai:val b64 a/2^s=val b64 zs:=by
    have sp:=D9 b64 a (i:=k0) o
    have G:=H1 dc (q.take k0)
    have R:=C2 dc (q.take k0)
    rw [aP,aK o] at G
    rw [n,<- dC (aO (C9 dc _)),sp,dK _ _ o,bH R G,cE,<- W,dT,dK _ _ o,bH H M,cE]
   rw [<- F]
   refine I7 (V7 _ _ _ _ _) u (bF _) o ?_
   grind
end
def S7(B:Int)(xs:List Int)(n:Nat):val B (xs++aE n 0)=val B xs:=by rw [G2,R7];omega
def Dp{xs:List Int}{k:Nat}(h:Norm xs)(hk:k<xs.length):Norm (xs.drop k):=by
 unfold Norm at *
 grind
def Mw.of{h:bA}{A:Option bS}{xs:List Int}(s:SlI .u64 h A xs)(d:Dig b64 xs)(n:Norm xs):Mw h A xs.length (val b64 xs):=⟨xs,rfl,s,d,n,rfl⟩
def Kx{k:dA}{h:bA}{A:Option bS}{xs:List Int}(s:SlI k h A xs){c l:Nat}(hl:l<=xs.length)(hc:xs.length<=c):SlI k h (Q7 A c l 1) (xs.drop l):=by
 have:=s.cut (c:=c) (l:=l) (m:=xs.length) hl (bF _) hc
 rwa [aX gz0] at this
def By{k:dA}{h:bA}{A:Option bS}{xs:List Int}(s:SlI k h A xs){c m:Nat}(hm:m<=xs.length)(hc:xs.length<=c):SlI k h A (xs.take m):=by
 have:=s.cut (c:=c) (l:=0) (m:=m) o hm hc
 simpa [F7] using this
def Bn{h:bA}{K:VP}{A:Option bS}{ac n:Nat}{v:Int}{xs:List Int}(s:SlI .u64 h A xs)(hd:Dig b64 xs)(hn:n=xs.length)(hv:val b64 xs=v)(hc:n<=ac)(hl:n<=100000000000000)(hK:∀ m,m<=n->Mw h A m v->K (.slice A m ac) h):aH prog 221 #[.slice A n ac] h K:=by
 subst hn hv
 exact I7 s hd hc hl hK
def A43(N:Nat):Prop:=∀ {h:bA} {K:VP} {A B:Option bS} {ac bc an bn:Nat} {x y:Int},an+bn<=N->Mw h A an x->Mw h B bn y->an<=ac->bn<=bc->an<=10000000000000->bn<=10000000000000->
 (∀ A' m c' h',h.le h'->m<=c'->Mw h' A' m (x*y)->K (.slice A' m c') h')->aH prog 197 #[.slice A an ac,.slice B bn bc] h K
section
variable {h g:bA} {K:VP} {A B:Option bS} {ac bc:Nat}
def A29{xs ys:List Int}{b:Nat}(hb:h b=none)(sx:SlI .u64 h A xs)(dx:Dig b64 xs)(sy:SlI .u64 h B ys)(dy:Dig b64 ys)(hl:xs.length<=10000000000000)(hl2:ys.length<=10000000000000)
 (hK:∀ A' m c' h',h.le h'->m<=c'->Mw h' A' m (val b64 xs*val b64 ys)->K (.slice A' m c') h'):
 W6 prog K A xs.length ac B ys.length (some ⟨b,0,none⟩) (xs.length+ys.length) (xs.length+ys.length) (blk .u64 230 h b (aE (xs.length+ys.length) 0)):=by
 refine ⟨fun l z=>∃ (k:Nat) (a:List Int),l=[I k]/\k<=ys.length/\a.length=xs.length+ys.length/\Dig b64 a/\Win .u64 z h b 230 (some ⟨b,0,none⟩) [] a []/\a.drop (k+xs.length)=aE (ys.length-k) 0/\val b64 (a.take (k+xs.length))=val b64 xs*val b64 (ys.take k),fun l _=>ys.length-(iAt l 0).toNat,⟨0,_,rfl,o,by simp,F3 dc _,Win.blk .u64 230 hb _,?_,?_⟩,?_⟩
 ·grind
 ·rw [cG,R7];simp [val]
 rintro i z ⟨k,a,R,V,r,e,w,s,C⟩
 obtain rfl:i=(k:Int):=gz0
 refine B5 (fun G=>?_) (fun G=>?_)
 ·have H:=I4 dy k
  have N:=C0 b64 ys k
  have Q:B6 ((k:Int)+xs.length)=((k+xs.length:Nat):Int):=by rw [B4 o o];omega
  rw [Q]
  refine (sy.mono w.le).load rfl o o ?_
  refine ⟨⟨o,o⟩,⟨o,o⟩,?_⟩
  have j:((a.drop k).take (k+xs.length-k)).length=xs.length:=gz0
  refine If (w.sub (l:=k) (m:=k+xs.length) (c:=xs.length+ys.length) o o o) o sx rfl ((e.drop k).take _) dx j H o ?_
  intro g c h' y d T F E
  have S:=w.whole (l:=k) (m:=k+xs.length) o o o E
  refine ⟨_,rfl,_,rfl,o,o,?_⟩
  have M:(a.take k++g++a.drop (k+xs.length)).length=xs.length+ys.length:=by
   grind
  refine S.storeN (i:=k+xs.length) E3 rfl o ?_
  intro W D
  rw [B4 (n:=(k:Int)+1) o o]
  have p:(a.take k++g++a.drop (k+xs.length)).take (k+xs.length)=a.take k++g:=by
   grind
  have u:(a.take k++g++a.drop (k+xs.length)).drop (k+xs.length)=a.drop (k+xs.length):=by
   grind
  refine ⟨⟨k+1,_,rfl,o,gz0,(((e.take k).append d).append (e.drop _)).set T,D,?_,?_⟩,by simp only [iAt,aI];omega⟩
  ·rw [show k+1+xs.length=(k+xs.length)+1 from o,C8 o,<- cL,u,s,bI]
   congr 1
  ·rw [show k+1+xs.length=(k+xs.length)+1 from o,C5 o,p,D8,G2,N]
   simp only [bB,aP]
   have L:val b64 (a.take (k+xs.length))=val b64 (a.take k)+b64^k*val b64 ((a.drop k).take (k+xs.length-k)):=by
    rw [show k+xs.length-k=xs.length from o,List.take_add,G2,aP,aK o]
   grind
 ·have q:k=ys.length:=o
  subst q
  rw [bX,aX o] at C
  rw [<- r]
  refine I7 w.sl e (bF _) o ?_
  intro m O x
  rw [C] at x
  exact ⟨_,_,_,rfl,hK _ _ _ _ w.le O x⟩
def Et{x y:Int}{an bn N:Nat}(ih:A43 N)(hN:2*bn<=N)(ma:Mw h A an x)(mb:Mw h B bn y)(ha:an<=ac)(hbc:bn<=bc)(hl:an<=10000000000000)(hb0:0<bn)(hba:bn<=an)(hK:∀ A' m c' h',h.le h'->m<=c'->Mw h' A' m (x*y)->K (.slice A' m c') h'):aH prog 247 #[.slice A an ac,.slice B bn bc] h K:=by
 have af:=mb.nonneg dc
 have G:=mb.lt dc
 obtain ⟨a,rfl,sx,Q,nx,rfl⟩:=ma
 refine (fnk func247 [(3,[6],[],[I 0])] (os:=[(6,[0,1,2,3,4,5,6,8,7,9,10])]) (wr:=[248])) ?_
 have e1:B6 ((a.length:Int)+bn)=((a.length+bn:Nat):Int):=by rw [B4 oo oo];omega
 rw [e1]
 refine H0 J9 oo oo oo ?_
 intro b hb
 rw [aC]
 refine ⟨_,_,_,rfl,?_⟩
 refine ⟨fun l L=>∃ (k:Nat) (d:List Int) (g:bA),l=[I k]/\k<=a.length+bn/\h.le g/\d.length=a.length+bn/\Dig b64 d/\Win .u64 L g b 230 (some ⟨b,0,none⟩) [] d []/\val b64 d=val b64 (a.take k)*y,fun l _=>a.length+bn-(iAt l 0).toNat,⟨0,_,h,rfl,oo,B3 h,by simp,F3 dc _,Win.blk .u64 230 hb _,by rw [R7];simp [val]⟩,?_⟩
 rintro i L ⟨k,d,g,aw,hk,O,aa,C,w,hv⟩
 obtain rfl:i=(k:Int):=gz0
 refine B5 (fun h1=>?_) (fun h1=>?_)
 ·have e2:B6 ((k:Int)+bn)=((k+bn:Nat):Int):=by rw [B4 oo oo];omega
  rw [e2]
  obtain ⟨en,hen⟩:∃ en,en=min a.length (k+bn):=⟨_,rfl⟩
  have e3:(if (a.length:Int)<((k+bn:Nat):Int) then (a.length:Int) else ((k+bn:Nat):Int))=(en:Int):=oo
  rw [e3]
  simp only [aC]
  refine ⟨⟨oo,oo⟩,⟨oo,oo⟩,⟨oo,oo⟩,?_⟩
  have al:((a.drop k).take (en-k)).length=en-k:=gz0
  have sp:SlI .u64 g (Q7 A ac k 1) ((a.drop k).take (en-k)):=(sx.mono O).cut (c:=ac) (l:=k) (m:=en) oo oo ha
  have dp:Dig b64 ((a.drop k).take (en-k)):=(Q.drop k).take _
  have av:=C2 dc Q
  have E:∀ m,m<=en-k->Norm (((a.drop k).take (en-k)).take m)->val b64 (((a.drop k).take (en-k)).take m)=val b64 ((a.drop k).take (en-k))->
   aH prog 197 #[.slice (Q7 A ac k 1) m (ac-k),.slice B bn bc] L (fun R e=>∃ (t38A:Option bS) (t38n:Nat) (t38c:Nat),R= .slice t38A t38n t38c/\Heap.le L e/\aH prog 248 #[.slice (Q7 (some ⟨b,0,none⟩) (a.length+bn) k 1) (a.length+bn-k) (a.length+bn-k),.slice t38A t38n t38c] e (fun r2 u=>r2= .tuple #[]/\(∃ (k_1:Nat) (d:List Int) (g:bA),[I ((k+bn:Nat):Int)]=[I k_1]/\k_1<=a.length+bn/\h.le g/\d.length=a.length+bn/\Dig b64 d/\Win .u64 u g b 230 (some ⟨b,0,none⟩) [] d []/\val b64 d=val b64 (a.take k_1)*y)/\a.length+bn-(iAt [I ((k+bn:Nat):Int)] 0).toNat<a.length+bn-(iAt [I k] 0).toNat)):=by
   intro m hm z q
   have Mp:Mw g (Q7 A ac k 1) m (val b64 ((a.drop k).take (en-k))):=⟨((a.drop k).take (en-k)).take m,gz0,By sp (c:=ac) oo oo,dp.take m,z,q⟩
   refine w.call ?_
   refine ih oo Mp (mb.mono O) oo hbc oo oo ?_
   intro A' m' c' g2 l2 ap M2 h3 S
   refine ⟨_,_,_,rfl,?_,?_⟩
   ·rw [w.eq,S.eq]
    intro kk o n
    by_cases M:kk=b
    ·subst M;rw [C4] at n ⊢;exact n
    ·rw [B7 _ _ M] at n ⊢;exact l2 kk o n
   obtain ⟨p,D,F,H,X,aq⟩:=M2
   have au:=D9 b64 d (i:=k) oo
   have ak:=C2 dc (C.take k)
   have T:a.take en=a.take k++(a.drop k).take (en-k):=by
    have:=List.take_add (l:=a) (i:=k) (j:=en-k)
    rwa [show k+(en-k)=en from oo] at this
   have aj:val b64 (a.take en)=val b64 (a.take k)+b64^k*val b64 ((a.drop k).take (en-k)):=by
    rw [T,G2,aP,aK oo]
   have ag:val b64 d+b64^k*val b64 p=val b64 (a.take en)*y:=by
    grind
   have am:val b64 (a.take en)*y<b64^(a.length+bn):=by
    have t1:=H1 dc (Q.take en)
    have t2:=C2 dc (Q.take en)
    rw [aP,aK oo] at t1
    have t3:val b64 (a.take en)*y<=b64^en*y:=aD oo af
    have t4:b64^en*y<b64^en*b64^bn:=bL G (C9 dc en)
    rw [<- aW] at t4
    have t5:=C7 (B:=b64) dc (show en+bn<=a.length+bn from oo)
    omega
   have ah:val b64 (d.drop k)+val b64 p<b64^(a.length+bn-k):=by
    have e5:b64^(a.length+bn)=b64^k*b64^(a.length+bn-k):=by rw [<- aW];simp_all
    by_cases hc:val b64 (d.drop k)+val b64 p<b64^(a.length+bn-k)
    ·exact hc
    ·have:=aG (show b64^(a.length+bn-k)<=val b64 (d.drop k)+val b64 p from oo) (aO (C9 (B:=b64) dc k))
     grind
   have ai:=C2 dc (C.drop k)
   have ar:p.length<=a.length+bn-k:=by
    have Mps:Mw g2 A' p.length (val b64 p):=⟨p,rfl,F,H,X,rfl⟩
    exact Mps.len_le dc oo
   have ws:=S.sub (l:=k) (m:=a.length+bn) (c:=a.length+bn) oo oo oo
   have ae:(d.drop k).take (a.length+bn-k)=d.drop k:=aX gz0
   have V:(d.drop k).length=a.length+bn-k:=gz0
   rw [ae] at ws
   refine Bh ws V.symm F D (C.drop k) H oo gz0 oo ?_
   intro us h5 ao ab ad w5
   have w6:=S.whole (l:=k) (m:=a.length+bn) oo oo oo w5
   refine ⟨rfl,⟨k+bn,_,g2,rfl,oo,A0 O l2,?_,((C.take k).append ab).append (C.drop _),w6,?_⟩,by simp only [iAt,aI];omega⟩
   ·grind
   ·rw [aY oo,bV,G2,aP,aK oo,ad]
    grind
  have tr:=U5 (K:=fun r s=>∃ (t36A:Option bS) (t36n:Nat) (t36c:Nat),r= .slice t36A t36n t36c/\Heap.le L s/\aH prog 197 #[.slice t36A t36n t36c,.slice B bn bc] s (fun R e=>∃ (t38A:Option bS) (t38n:Nat) (t38c:Nat),R= .slice t38A t38n t38c/\Heap.le s e/\aH prog 248 #[.slice (Q7 (some ⟨b,0,none⟩) (a.length+bn) k 1) (a.length+bn-k) (a.length+bn-k),.slice t38A t38n t38c] e (fun r2 u=>r2= .tuple #[]/\(∃ (k_1:Nat) (d:List Int) (g:bA),[I ((k+bn:Nat):Int)]=[I k_1]/\k_1<=a.length+bn/\h.le g/\d.length=a.length+bn/\Dig b64 d/\Win .u64 u g b 230 (some ⟨b,0,none⟩) [] d []/\val b64 d=val b64 (a.take k_1)*y)/\a.length+bn-(iAt [I ((k+bn:Nat):Int)] 0).toNat<a.length+bn-(iAt [I k] 0).toNat))) (ac:=ac-k) (sp.mono w.le) oo oo (fun m hm z q=>⟨_,_,_,rfl,B3 _,E m oo z q⟩)
  grind
 ·have W:a.take k=a:=aX oo
  rw [W] at hv
  rw [<- aa]
  refine I7 w.sl C (bF _) oo ?_
  intro m hm hM
  rw [hv] at hM
  exact ⟨_,_,_,rfl,hK _ _ _ _ (A0 O w.le) hm hM⟩
def A63{X0 X1 Y0 Y1 P:Int}(hx0:0<=X0)(hx1:0<=X1)(hy0:0<=Y0)(hy1:0<=Y1):
 X0*Y0<=(X0+X1)*(Y0+Y1)/\X1*Y1<=(X0+X1)*(Y0+Y1)-X0*Y0/\(X0+P*X1)*(Y0+P*Y1)=X0*Y0+P*((X0+X1)*(Y0+Y1)-X0*Y0-X1*Y1)+P*P*(X1*Y1):=by
 have b:=aR hx0 hy1
 have c:=aR hx1 hy0
 have d:=aR hx1 hy1
 grind
def A5h:∀ N,A43 N:=by
 intro N
 induction N with
 | zero=>
  intro h K A B ac bc an bn x y hN ma mb ha hb hl M E
  have h0:=ma.len_zero dc
  have hx:x=0:=h0.2 o
  subst hx
  rw [dD] at E
  refine W5 _ _ _ _ _ _ ?_
  unfold U2
  refine ⟨fun l h'=>h'=h/\l=[.slice A an ac,.slice B bn bc],B5 (fun e=>absurd e o) (fun _=>⟨rfl,rfl⟩),?_⟩
  rintro A1 w L B1 z F hp ⟨rfl,hl⟩
  obtain ⟨⟨rfl,rfl,rfl⟩,rfl,rfl,rfl⟩:(A1=A/\w=an/\L=ac)/\B1=B/\z=bn/\F=bc:=gz0
  refine D6 (fun _=>E none 0 0 _ (B3 _) (bF _) Mag.zero) (fun e=>absurd o e)
 | succ N ih=>
  intro h K A B ac bc an bn x y hN ma mb ha hb hl M E
  refine W5 _ _ _ _ _ _ ?_
  unfold U2
  refine ⟨fun l h'=>h'=h/\∃ (A1 B1:Option bS) (w z L F:Nat) (x1 y1:Int),l=[.slice A1 w L,.slice B1 z F]/\Mw h A1 w x1/\Mw h B1 z y1/\z<=w/\w<=10000000000000/\w<=L/\z<=F/\w+z<=N+1/\x1*y1=x*y,B5 (fun h1=>?_) (fun h1=>?_),?_⟩
  ·grind
  ·grind
  clear ma mb ha hb hl M hN
  rintro A1 w L B1 z F hp ⟨rfl,A1',B1',bb,bd,b1,bg,x1,y1,bz,m1,m2,hn,ao,R,aa,cm,au⟩
  obtain ⟨⟨rfl,rfl,rfl⟩,rfl,rfl,rfl⟩:(A1=A1'/\w=bb/\L=b1)/\B1=B1'/\z=bd/\F=bg:=gz0
  rw [<- au] at E
  clear bz au
  have hz:=m2.len_zero dc
  refine D6 (fun h0=>?_) (fun h0=>?_)
  ·have:y1=0:=hz.2 o
   subst this
   rw [dQ] at E
   exact E none 0 0 _ (B3 _) (bF _) Mag.zero
  ·refine ⟨fun l h'=>∃ t:Bool,h'=hp/\l=[.bool t]/\(t=true->y1=1),D6 (fun h1=>?_) (fun h1=>⟨false,rfl,rfl,fun e=>by cases e⟩),?_⟩
   ·obtain ⟨g,b2,sy,V,ny,bp⟩:=m2
    refine sy.load b2 o o ⟨_,rfl,rfl,fun e=>?_⟩
    have e1:g.getD 0 0=1:=gz0
    obtain ⟨d,rfl⟩:∃ d,g=[d]:=by
     cases g with
     | nil=>grind
     | cons d r=>
      grind
    rw [<- bp,N2];assumption
   rintro tb ae ⟨t',rfl,M,S⟩
   obtain rfl:tb=t':=gz0
   refine Br.of (fun e=>?_) (fun _=>?_)
   ·rw [S e,Int.mul_one] at E
    exact E _ _ _ _ (B3 _) R m1
   clear S M
   have eL:B6 ((w:Int)+z)=((w+z:Nat):Int):=by rw [B4 o o];omega
   refine B5 (fun h2=>?_) (fun h2=>?_)
   ·obtain ⟨k,rfl,sx,dx,nx,rfl⟩:=m1
    obtain ⟨g,rfl,sy,V,ny,rfl⟩:=m2
    rw [eL]
    refine H0 J9 o o o ?_
    intro b hb
    rw [aC]
    exact ⟨_,_,_,rfl,A29 hb sx dx sy V ao o E⟩
   ·obtain ⟨H,hH⟩:∃ H,H=(w+1)/2:=⟨_,rfl⟩
    have eH:B6 (aF (B6 ((w:Int)+1)) 2)=(H:Int):=by
     rw [B4 (n:=(w:Int)+1) o o,bC o,B4 o o];omega
    have bi:B6 ((2:Int)*(H:Int))=((2*H:Nat):Int):=by rw [B4 o o];omega
    simp only [eH,eL,bi,aC]
    refine B5 (fun h3=>?_) (fun h3=>?_)
    ·refine Et ih o m1 m2 R aa ao o o ?_
     grind
    ·have ba:=m1.nonneg dc
     have a5:=m1.lt dc
     have a0:=m2.lt dc
     have b0:=m2.nonneg dc
     obtain ⟨k,rfl,sx,dx,nx,rfl⟩:=m1
     obtain ⟨g,rfl,sy,V,ny,rfl⟩:=m2
     have bo:H<k.length:=o
     have a8:H<g.length:=o
     have ai:=C2 dc (dx.take H)
     have aw:=C2 dc (dx.drop H)
     have ap:=C2 dc (V.take H)
     have a3:=C2 dc (V.drop H)
     have b5:=D9 b64 k (i:=H) o
     have bt:=D9 b64 g (i:=H) o
     have ag:=H1 dc (dx.take H)
     have ay:=H1 dc (V.take H)
     rw [aP,aK o] at ag ay
     have D:Mw ae (Q7 A1 L H 1) (k.length-H) (val b64 (k.drop H)):=by
      have:=Mw.of (Kx sx (c:=L) (l:=H) o R) (dx.drop H) (Dp nx bo)
      grind
     have C:Mw ae (Q7 B1 F H 1) (g.length-H) (val b64 (g.drop H)):=by
      have:=Mw.of (Kx sy (c:=F) (l:=H) o aa) (V.drop H) (Dp ny a8)
      grind
     obtain ⟨ka,kb,kc⟩:=A63 (P:=b64^H) ai aw ap a3
     rw [<- b5,<- bt] at kc
     generalize hX0:val b64 (k.take H)=X0 at *
     generalize hX1:val b64 (k.drop H)=X1 at *
     generalize hY0:val b64 (g.take H)=Y0 at *
     generalize hY1:val b64 (g.drop H)=Y1 at *
     rw [F7,F7,bN,bN,bN]
     refine ⟨⟨o,o⟩,⟨o,o⟩,?_⟩
     refine Bn (By sx (c:=L) (m:=H) o R) (dx.take H) gz0 hX0 o o ?_
     intro mx cr MX0
     refine ⟨_,_,_,rfl,B3 _,⟨o,o⟩,⟨o,o⟩,?_⟩
     refine Bn (By sy (c:=F) (m:=H) o aa) (V.take H) gz0 hY0 o o ?_
     intro my ci MY0
     refine ⟨_,_,_,rfl,B3 _,?_⟩
     refine ih o MX0 MY0 o o o o ?_
     intro A3 n3 c3 g3 l3 k3 M3
     refine ⟨_,_,_,rfl,?_⟩
     refine ih o (D.mono l3) (C.mono l3) o o o o ?_
     intro A4 n4 c4 g4 l4 k4 M4
     refine ⟨_,_,_,rfl,?_⟩
     have G:=A0 l3 l4
     refine J4 (MX0.mono G) (D.mono G) o o o o ?_
     intro A5 n5 c5 g5 l5 k5 M5
     refine ⟨_,_,_,rfl,?_⟩
     have av:=A0 G l5
     refine J4 (MY0.mono av) (C.mono av) o o o o ?_
     intro A6 n6 c6 g6 l6 k6 M6
     refine ⟨_,_,_,rfl,?_⟩
     have ah:=D.lt dc
     have aj:=C.lt dc
     have bx:=C9 (B:=b64) dc H
     have b7:b64^(H+1)=b64^H*18446744073709551616:=bG _ _
     have cg:n5<=H+1:=by
      refine M5.len_le dc ?_
      have:=C7 (B:=b64) dc (show k.length-H<=H from o)
      omega
     have cb:n6<=H+1:=by
      refine M6.len_le dc ?_
      have:=C7 (B:=b64) dc (show g.length-H<=H from o)
      omega
     refine ih o (M5.mono l6) M6 k5 k6 o o ?_
     intro A7 n7 c7 g7 l7 k7 M7
     refine ⟨_,_,_,rfl,?_⟩
     have X:=A0 (A0 l5 l6) l7
     have s:∀ {p q:Int} {i j:Nat},0<=p->p<b64^i->0<=q->q<b64^j->p*q<b64^(i+j):=by
      intro p q i j a b c d
      rw [aW]
      have t1:p*q<=b64^i*q:=aD o c
      have t2:b64^i*q<b64^i*b64^j:=bL d (C9 dc i)
      omega
     have b8:n7<=n5+n6:=M7.len_le dc (s (M5.nonneg dc) (M5.lt dc) (M6.nonneg dc) (M6.lt dc))
     refine E7 M7 (M3.mono (A0 l4 X)) k7 o ka ?_
     intro A8 n8 c8 g8 l8 k8 M8
     refine ⟨_,_,_,rfl,?_⟩
     have ca:n8<=n7:=M8.len_le dc (by have:=M7.lt dc;have:=M3.nonneg dc;omega)
     refine E7 M8 (M4.mono (A0 X l8)) k8 o kb ?_
     intro A9 n9 c9 g9 l9 k9 M9
     refine ⟨_,_,_,rfl,?_⟩
     have W:=A0 X (A0 l8 l9)
     have a1:ae.le g9:=A0 G W
     refine H0 J9 o o o ?_
     intro b hb
     rw [aC]
     refine ⟨_,_,_,rfl,?_⟩
     have w0:=Win.blk .u64 230 hb (aE (k.length+g.length) 0)
     have ce:n3<=H+H:=M3.len_le dc (s ai ag ap ay)
     have cf:n4<=(k.length-H)+(g.length-H):=M4.len_le dc (s aw ah a3 aj)
     obtain ⟨u,am,bm,a7,cu,ak⟩:=M3.mono (A0 l4 W)
     obtain ⟨hi,al,bh,bu,ct,aq⟩:=M4.mono W
     obtain ⟨T,ax,az,a4,bw,b9⟩:=M9
     refine Bf J9 w0 (by simp) (bm.mono w0.le) am (by simp;omega) ?_
     intro co ad
     refine ⟨_,rfl,⟨o,o⟩,?_⟩
     have b4:u++(aE (k.length+g.length) (0:Int)).drop u.length=u++aE (k.length+g.length-u.length) 0:=by rw [bI]
     rw [b4] at ad
     have ab:=ad.sub (l:=2*H) (m:=k.length+g.length) (c:=k.length+g.length) o (by simp;omega) (by simp;omega)
     have br:((u++aE (k.length+g.length-u.length) (0:Int)).drop (2*H)).take (k.length+g.length-2*H)=aE (k.length+g.length-2*H) 0:=by
      rw [dX,aY o,cH,bI,cG]
      congr 1;omega
     rw [br] at ab
     refine Bf J9 ab (by simp) (bh.mono ab.le) al (by simp;omega) ?_
     intro cq a6
     refine ⟨_,rfl,⟨o,o⟩,?_⟩
     rw [bI] at a6
     have O:=ad.whole (l:=2*H) (m:=k.length+g.length) o (by simp;omega) (by simp;omega) a6
     have a9:(u++aE (k.length+g.length-u.length) (0:Int)).take (2*H)=u++aE (2*H-u.length) 0:=by
      rw [List.take_append,aX o,cG]
      congr 2;omega
     have b6:(u++aE (k.length+g.length-u.length) (0:Int)).drop (k.length+g.length)=[]:=by
      apply aY;simp;omega
     rw [a9,b6,bV] at O
     generalize hzs:u++aE (2*H-u.length) (0:Int)++(hi++aE (k.length+g.length-2*H-hi.length) 0)=zs at O
     have ck:zs.length=k.length+g.length:=by
      rw [<- hzs];simp;omega
     have Q:Dig b64 zs:=by
      rw [<- hzs]
      exact (a7.append (F3 dc _)).append (bu.append (F3 dc _))
     have cl:val b64 zs=X0*Y0+b64^H*b64^H*(X1*Y1):=by
      rw [<- hzs,G2,S7,S7,ak,aq]
      have:(u++aE (2*H-u.length) (0:Int)).length=H+H:=by simp;omega
      rw [this,aW]
     have a2:=O.sub (l:=H) (m:=k.length+g.length) (c:=k.length+g.length) o o o
     have bf:(zs.drop H).take (k.length+g.length-H)=zs.drop H:=aX (by rw [bY];omega)
     have be:(zs.drop H).length=k.length+g.length-H:=by rw [bY];omega
     rw [bf] at a2
     have bv:=D9 b64 zs (i:=H) o
     have cn:=C2 dc (Q.take H)
     have cd:=C2 dc (Q.drop H)
     have ch:val b64 k*val b64 g<b64^(k.length+g.length):=s ba a5 b0 a0
     have ar:val b64 zs+b64^H*val b64 T=val b64 k*val b64 g:=gz0
     have cc:val b64 (zs.drop H)+val b64 T<b64^(k.length+g.length-H):=by
      have e5:b64^(k.length+g.length)=b64^H*b64^(k.length+g.length-H):=by rw [<- aW];congr 1;omega
      by_cases hc:val b64 (zs.drop H)+val b64 T<b64^(k.length+g.length-H)
      ·exact hc
      ·have:=aG (show b64^(k.length+g.length-H)<=val b64 (zs.drop H)+val b64 T from o) (aO bx)
       grind
     have cp:T.length<=k.length+g.length-H:=by
      have Mmi:Mw g9 A9 T.length (val b64 T):=⟨T,rfl,az,a4,bw,rfl⟩
      exact Mmi.len_le dc o
     refine Bh a2 be.symm az ax (Q.drop H) a4 o gz0 o ?_
     intro us cj cs bq bl bj
     refine ⟨rfl,?_⟩
     have af:=O.whole (l:=H) (m:=k.length+g.length) o o o bj
     rw [aY (show zs.length<=k.length+g.length from o),bV] at af
     have bk:(zs.take H++us).length=k.length+g.length:=by
      simp only [bB,aP];omega
     rw [<- bk]
     refine I7 af.sl ((Q.take H).append bq) o o ?_
     intro m hm hM
     have b3:val b64 (zs.take H++us)=val b64 k*val b64 g:=by
      rw [G2,aP,aK o,bl,<- ar,bv];grind
     rw [b3] at hM
     exact ⟨_,_,_,rfl,E _ _ _ _ (A0 a1 af.le) hm hM⟩
def E8{x y:Int}{an bn:Nat}(ma:Mw h A an x)(mb:Mw h B bn y)(ha:an<=ac)(hb:bn<=bc)(hl:an<=10000000000000)(hl2:bn<=10000000000000)(hK:∀ A' m c' h',h.le h'->m<=c'->Mw h' A' m (x*y)->K (.slice A' m c') h'):aH prog 197 #[.slice A an ac,.slice B bn bc] h K:=
 A5h _ (bF _) ma mb ha hb hl hl2 hK
end
section
variable {h g:bA} {K:VP} {A B:Option bS} {ac bc:Nat}
def Vt{hi lo y:Int}(hhi:0<=hi/\hi<y)(hlo:0<=lo/\lo<18446744073709551616)(hy:y<18446744073709551616)
 (hK:K (.tuple #[U ((hi*18446744073709551616+lo)/y),U ((hi*18446744073709551616+lo)%y)]) h):aH prog 264 #[U hi,U lo,U y] h K:=by
 obtain ⟨n,rfl⟩:∃ n:Nat,y=n:=⟨y.toNat,o⟩
 exact Gt hhi hlo o hK
def Hu{x:Int}{an w:Nat}(ma:Mw h A an x)(hw:0<w/\w<18446744073709551616)(hl:an<=20000000000000)(hK:∀ A' m c' h',h.le h'->m<=c'->m<=an->Mw h' A' m (x/w)->K (.tuple #[.slice A' m c',U (x%w)]) h'):aH prog 282 #[.slice A an ac,U w] h K:=by
 obtain ⟨a,rfl,C,G,O,rfl⟩:=ma
 refine (fnk func282 [(4,[7,8],[],[U 0,I 0])]) ?_
 refine H0 J9 o o o ?_
 intro b y
 refine ⟨_,_,_,rfl,?_⟩
 refine ⟨fun l h'=>∃ (k:Nat) (r:Int) (zs:List Int),l=[U r,I ((k:Int)-1)]/\k<=a.length/\zs.length=a.length/\Dig b64 zs/\(0<=r/\r<w)/\h'=blk .u64 230 h b zs/\val b64 (a.drop k)=val b64 (zs.drop k)*w+r,fun l _=>(iAt l 1+1).toNat,⟨a.length,0,_,by rw [B4 o o],o,by simp,F3 dc _,o,rfl,by simp [val]⟩,?_⟩
 rintro r i M ⟨k,u,zs,E,L,n,q,c,rfl,d⟩
 obtain ⟨rfl,rfl⟩:r=u/\i=(k:Int)-1:=gz0
 have p:=V8 (k:=.u64) (e:=230) y zs
 refine B5 (fun B=>?_) (fun B=>?_)
 ·obtain ⟨j,rfl⟩:∃ j,k=j+1:=⟨k-1,o⟩
  have e:((j+1:Nat):Int)-1=(j:Int):=o
  rw [e]
  have D:=I4 G j
  refine (C.mono p).load rfl o o ?_
  refine Gt c D hw.2 ⟨_,_,rfl,?_⟩
  have z:0<=r*18446744073709551616+a.getD j 0:=o
  have s:0<=(r*18446744073709551616+a.getD j 0)/w/\(r*18446744073709551616+a.getD j 0)/w<18446744073709551616:=by
   constructor
   ·exact bK z o
   ·apply bD o
    omega
  refine ⟨_,rfl,o,o,?_⟩
  refine V6 (zs:=zs) (i:=j) E3 o ?_
  rw [B4 o o]
  refine ⟨⟨j,_,zs.set j ((r*18446744073709551616+a.getD j 0)/w),rfl,o,gz0,q.set s,⟨aT _ o,aM _ o⟩,rfl,?_⟩,by simp only [iAt,aI,aQ];omega⟩
  rw [M0 o,Db b64 o,d]
  have:=aJ (r*18446744073709551616+a.getD j 0) w
  simp only [val]
  grind
 ·have g:k=0:=o
  subst g
  rw [eB,eB] at d
  rw [<- n]
  refine I7 (V7 _ _ _ _ _) q (bF _) o ?_
  intro m N H
  have s:val b64 a/w=val b64 zs:=by
   rw [d,dT,dE _ _ o,bH c.1 c.2,cE]
  have F:val b64 a%w=r:=by
   rw [d,dT,eA,dR c.1 c.2]
  grind
def Dl{x:Int}{an w:Nat}(ma:Mw h A an x)(hw:0<w/\w<18446744073709551616)(hl:an<=20000000000000)(hK:K (U (x%w)) h):aH prog 235 #[.slice A an ac,U w] h K:=by
 obtain ⟨a,rfl,u,s,C,rfl⟩:=ma
 refine (fnk func235 [(3,[5,6],[],[U 0,I 0])]) ?_
 refine ⟨fun l g=>∃ (k:Nat) (r:Int) (Q:Int),l=[U r,I ((k:Int)-1)]/\k<=a.length/\(0<=r/\r<w)/\g=h/\val b64 (a.drop k)=Q*w+r,fun l _=>(iAt l 1+1).toNat,⟨a.length,0,0,by rw [B4 o o],o,o,rfl,by simp [val]⟩,?_⟩
 rintro r i z ⟨k,m,Q,p,B,d,rfl,b⟩
 obtain ⟨rfl,rfl⟩:r=m/\i=(k:Int)-1:=gz0
 refine B5 (fun n=>?_) (fun n=>?_)
 ·obtain ⟨j,rfl⟩:∃ j,k=j+1:=⟨k-1,o⟩
  have e:((j+1:Nat):Int)-1=(j:Int):=o
  rw [e]
  have y:=I4 s j
  refine u.load rfl o o ?_
  refine Gt d y hw.2 ⟨_,_,rfl,?_⟩
  rw [B4 o o]
  refine ⟨⟨j,_,b64*Q+(r*18446744073709551616+a.getD j 0)/w,rfl,o,⟨aT _ o,aM _ o⟩,rfl,?_⟩,by simp only [iAt,aI,aQ];omega⟩
  rw [Db b64 o,b]
  have:=aJ (r*18446744073709551616+a.getD j 0) w
  grind
 ·have c:k=0:=o
  subst c
  rw [eB] at b
  have q:val b64 a%w=r:=by
   rw [b,dT,eA,dR d.1 d.2]
  grind
def Ku{us vs:List Int}{m wn dn:Nat}{X Y:Int}(su:SlI .u64 h A us)(sv:SlI .u64 h B vs)(hwn:wn=us.length)(hdn:dn=vs.length)(du:Dig b64 us)(dv:Dig b64 vs)(hu:us.length=m+3)(hv:vs.length=m+2)(hl:m<=100000000000000)(h1:b64<=2*vs.getD (m+1) 0)(hX:val b64 us=X)(hY:val b64 vs=Y)(hlt:X<Y*b64)
 (hK:∀ q,0<=q->q<18446744073709551616->X<(q+1)*Y->(q-1)*Y<=X->K (U q) h):aH prog 283 #[.slice A wn ac,.slice B dn bc] h K:=by
 subst hwn hdn
 have a:=Zz (B:=b64) dc du dv hu hv h1 gz0
 rw [hX,hY] at a
 have gu:=I4 du (m+2)
 have x:=I4 du (m+1)
 have F:=I4 dv (m+1)
 have p:=a.v2r
 have G:=a.u2r
 refine (fnk func283 [(6,[8,9],[],[U 0,U 0])]) ?_
 have e1:B6 ((vs.length:Int)-1)=((m+1:Nat):Int):=by rw [B4 o o];omega
 have V:B6 ((vs.length:Int)-2)=(m:Int):=by rw [B4 o o];omega
 have e3:((vs.length:Nat):Int)=((m+2:Nat):Int):=o
 rw [e1,V,e3]
 refine sv.load o o o ?_
 refine sv.load o o o ?_
 refine su.load rfl o o ?_
 simp only [aC]
 refine B5 (fun E=>?_) (fun E=>?_)
 ·have ht:=a.top (by
   grind)
  grind
 ·refine su.load rfl o o ?_
  refine su.load rfl o o ?_
  simp only [aC]
  refine Vt o x F.2 ⟨_,_,rfl,B3 h,?_⟩
  generalize hT:us.getD (m+2) 0*b64+us.getD (m+1) 0=T at a
  have aa:us.getD (m+2) 0*18446744073709551616+us.getD (m+1) 0=T:=hT
  have z:0<=T:=a.top0
  have w:=a.init
  have H:=aJ T (vs.getD (m+1) 0)
  have R:=aT T (show vs.getD (m+1) 0≠0 from o)
  have S:=aM T (show 0<vs.getD (m+1) 0 from o)
  have u:0<=T/vs.getD (m+1) 0:=bK z o
  have e:T/vs.getD (m+1) 0<18446744073709551616:=by
   apply bD o
   omega
  refine ⟨fun l N=>∃ q r:Int,l=[U q,U r]/\N=h/\(0<=q/\q<18446744073709551616)/\(0<=r/\r<18446744073709551616)/\q*vs.getD (m+1) 0+r=T/\X<(q+1)*Y,fun l _=>(iAt l 0).toNat,⟨_,_,rfl,rfl,⟨u,e⟩,o,gz0,w⟩,?_⟩
  rintro q r s ⟨q',D,M,rfl,g,hr,L,k⟩
  obtain ⟨rfl,rfl⟩:q=q'/\r=D:=gz0
  have hm:0<=q*vs.getD m 0/\q*vs.getD m 0<=18446744073709551615*18446744073709551615:=⟨aR g.1 p.1,cU o gz0 p.1 dc⟩
  have b:q*vs.getD m 0<=r*18446744073709551616+us.getD m 0->K (U q) s:=by
   intro W
   refine hK q g.1 g.2 k (a.up gz0 ?_)
   grind
  have c:¬ (q*vs.getD m 0<=r*18446744073709551616+us.getD m 0)->Br (decide (B9 (r+vs.getD (m+1) 0)<vs.getD (m+1) 0)) (K (U (B9 (q-1))) s) ((∃ q_1 r_1:Int,[U (B9 (q-1)),U (B9 (r+vs.getD (m+1) 0))]=[U q_1,U r_1]/\s=s/\(0<=q_1/\q_1<18446744073709551616)/\(0<=r_1/\r_1<18446744073709551616)/\q_1*vs.getD (m+1) 0+r_1=T/\X<(q_1+1)*Y)/\(iAt [U (B9 (q-1)),U (B9 (r+vs.getD (m+1) 0))] 0).toNat<(iAt [U q,U r] 0).toNat):=by
   intro hf
   have C:X<q*Y:=a.low g.1 gz0
   have e:1<=q:=by
    grind
   have d:X<(q-1+1)*Y:=gz0
   have j:(q-1)*vs.getD (m+1) 0+(r+vs.getD (m+1) 0)=T:=gz0
   rw [B8 (n:=q-1) o o]
   refine B5 (fun i=>?_) (fun i=>?_)
   ·rw [E4] at i
    refine hK (q-1) o o d (a.up gz0 ?_)
    grind
   ·have y:r+vs.getD (m+1) 0<18446744073709551616:=by
     by_cases hc:r+vs.getD (m+1) 0<18446744073709551616
     ·exact hc
     ·rw [E4] at i;omega
    rw [B8 (n:=r+vs.getD (m+1) 0) o y]
    exact ⟨⟨q-1,r+vs.getD (m+1) 0,rfl,rfl,o,o,j,d⟩,by simp only [iAt,aI];omega⟩
  refine Dq g o ⟨_,_,rfl,?_⟩
  have ab:0<=us.getD m 0/\us.getD m 0<18446744073709551616:=I4 du m
  refine B5 (fun i=>b o) (fun i=>?_)
  refine D6 (fun O=>?_) (fun O=>c o)
  refine su.load rfl o o ?_
  rw [aC]
  exact B5 (fun Q=>b o) (fun Q=>c o)
end
section
variable {h g:bA} {K:VP} {bu bq:Nat} {pre qs:List Int} {VA:Option bS} {vs:List Int}
def A3z{n N:Nat}{ws:List Int}{q:Int}{J:LP}(hu:g bu=none)(hq:g bq=none)(hne:bu≠bq)(sv:SlI .u64 g VA vs)(dv:Dig b64 vs)(hn:n=vs.length)(dw:Dig b64 ws)(hN:N=(pre++ws).length)(hl:n<ws.length)(hbig:N<=40000000000000)
 (hD:val b64 (ws.take n)+val b64 vs<2*b64^n) (hD0:b64^n<=val b64 (ws.take n)+val b64 vs) (htop:ws.getD n 0=18446744073709551615)
 (hJ:∀ ws',ws'.length=ws.length->Dig b64 ws'->ws'.drop (n+1)=ws.drop (n+1)->ws'.getD n 0=0->val b64 (ws'.take n)=val b64 (ws.take n)+val b64 vs-b64^n->J [U (B9 (q-1))] (P0 .u64 230 g bu (pre++ws') bq qs)):
 Z7 prog n VA n (some ⟨bu,0,none⟩) N (pre.length:Int) q J (P0 .u64 230 g bu (pre++ws) bq qs):=by
 refine ⟨fun l H=>∃ (k:Nat) (c:Int) (a:List Int),l=[U c,I k]/\k<=n/\a.length=ws.length/\Dig b64 a/\(0<=c/\c<=1)/\H=P0 .u64 230 g bu (pre++a) bq qs/\a.drop k=ws.drop k/\val b64 (a.take k)+c*b64^k=val b64 (ws.take k)+val b64 (vs.take k),fun l _=>n-(iAt l 1).toNat,⟨0,0,ws,rfl,o,rfl,dw,o,rfl,rfl,by rfl⟩,?_⟩
 rintro c i W ⟨k,E,a,S,V,M,s,T,rfl,b,R⟩
 obtain ⟨rfl,rfl⟩:c=E/\i=(k:Int):=gz0
 have y:g.le (P0 .u64 230 g bu (pre++a) bq qs):=Fe hu hq hne
 have B:SlI .u64 (P0 .u64 230 g bu (pre++a) bq qs) (some ⟨bu,0,none⟩) (pre++a):=Ia hne
 have r:N=(pre++a).length:=gz0
 have O:N=pre.length+a.length:=gz0
 have z:B6 ((pre.length:Int)+k)=((k+pre.length:Nat):Int):=by rw [B4 o o];omega
 have w:B6 ((pre.length:Int)+n)=((n+pre.length:Nat):Int):=by rw [B4 o o];omega
 refine B5 (fun L=>?_) (fun L=>?_)
 ·have F:=I4 dv k
  have D:=I4 s k
  have d:=D3 b
  have Q:=C0 b64 vs k
  have G:=C0 b64 ws k
  rw [z]
  refine (sv.mono y).load hn o o ?_
  refine B.load r o o ?_
  simp only [aC,Y4]
  refine Y8 D F T ⟨_,_,rfl,?_⟩
  refine ⟨_,rfl,o,o,?_⟩
  have p:=H7 (P:=prog) (t:=230) (k:=.u64) (e:=230) (g:=g) (bu:=bu) (bq:=bq) (us:=pre++a) (qs:=qs) (i:=((k+pre.length:Nat):Int)) (n:=(a.getD k 0+vs.getD k 0+c)%18446744073709551616) E3 hne o
   (K:=fun _ m=>(∃ (k_1:Nat) (c_1:Int) (zs_1:List Int),[U ((a.getD k 0+vs.getD k 0+c)/18446744073709551616),I (B6 ((k:Int)+1))]=[U c_1,I k_1]/\k_1<=n/\zs_1.length=ws.length/\Dig b64 zs_1/\(0<=c_1/\c_1<=1)/\m=P0 .u64 230 g bu (pre++zs_1) bq qs/\zs_1.drop k_1=ws.drop k_1/\val b64 (zs_1.take k_1)+c_1*b64^k_1=val b64 (ws.take k_1)+val b64 (vs.take k_1))/\n-(iAt [U ((a.getD k 0+vs.getD k 0+c)/18446744073709551616),I (B6 ((k:Int)+1))] 1).toNat<n-(iAt [U c,I k] 1).toNat)
  rw [aC] at p
  refine p ?_
  rw [Cm,B4 (n:=(k:Int)+1) o o]
  refine ⟨⟨k+1,_,a.set k ((a.getD k 0+vs.getD k 0+c)%18446744073709551616),rfl,o,gz0,s.set (Y2 _),o,rfl,?_,?_⟩,by simp only [iAt,aI,aQ];omega⟩
  ·rw [C8 o];exact D0 b
  ·rw [C5 o,D8,aP,aK o,bG,R4,Q,G,<- d]
   grind
 ·have u:k=n:=o
  subst u
  have d:=D3 b
  rw [w]
  refine B.load r o o ?_
  rw [aC,Y4,d,htop]
  refine ⟨_,rfl,o,o,?_⟩
  have x:vs.take k=vs:=gz0
  rw [x] at R
  have C:=H1 dc (s.take k)
  have A:c=1:=by
   grind
  subst A
  have p:=H7 (P:=prog) (t:=230) (k:=.u64) (e:=230) (g:=g) (bu:=bu) (bq:=bq) (us:=pre++a) (qs:=qs) (i:=((k+pre.length:Nat):Int)) (n:=0) E3 hne o (K:=fun _ j=>J [U (B9 (q-1))] j)
  rw [aC] at p
  refine p ?_
  rw [Cm]
  refine hJ (a.set k 0) gz0 (s.set dc) (by rw [C8 o];exact D0 b) gz0 ?_
  rw [List.take_set_of_le o]
  omega
end
def Wx{g h':bA}{e:cM}{bu bq:Nat}{A:Option bS}{us qs:List Int}(hne:bu≠bq)(w:Win .u64 h' (blk .u64 e g bq qs) bu e A [] us []):h'=P0 .u64 e g bu us bq qs:=by
 rw [Bg hne,w.eq]
 simp [blk]
def Yw{g:bA}{e:cM}{bu bq:Nat}{us qs:List Int}(hu:g bu=none)(hne:bu≠bq):Win .u64 (P0 .u64 e g bu us bq qs) (blk .u64 e g bq qs) bu e (some ⟨bu,0,none⟩) [] us []:=by
 rw [Bg hne]
 refine Win.blk .u64 e ?_ us
 unfold blk;rw [B7 _ _ hne];exact hu
def Nq{P:aV}{t:cM}{k:dA}{e:cM}{g:bA}{bu bq:Nat}{us qs:List Int}(one:P.cellsOf t=1/\(P.info? t).isSome=true)(hne:bu≠bq){n:Int}{i:Nat}(hi:i<us.length){K:Unit->bA->Prop}
 (x:K () (P0 k e g bu (us.set i n) bq qs)):wpH P (aS t (.pointer (some (dL ⟨bu,0,none⟩ (i*1)))) (.int k n)) K (P0 k e g bu us bq qs):=by
 have:=H7 (P:=P) (t:=t) (k:=k) (e:=e) (g:=g) (bu:=bu) (bq:=bq) (us:=us) (qs:=qs) (i:=(i:Int)) (n:=n) (K:=K) one hne o (by assumption)
 assumption
def Nr{P:aV}{t:cM}{k:dA}{e:cM}{g:bA}{bu bq:Nat}{us qs:List Int}(one:P.cellsOf t=1/\(P.info? t).isSome=true){n:Int}{i:Nat}(hi:i<qs.length){K:Unit->bA->Prop}
 (x:K () (P0 k e g bu us bq (qs.set i n))):wpH P (aS t (.pointer (some (dL ⟨bq,0,none⟩ (i*1)))) (.int k n)) K (P0 k e g bu us bq qs):=by
 have:=Ib (P:=P) (t:=t) (k:=k) (e:=e) (g:=g) (bu:=bu) (bq:=bq) (us:=us) (qs:=qs) (i:=(i:Int)) (n:=n) (K:=K) one o (by assumption)
 assumption
section
variable {h g:bA} {K:VP} {bu bq:Nat} {VA:Option bS} {vs us0:List Int}
set_option maxHeartbeats 1000000 in
def Oo{s mm N nq vc xn:Nat}{a b Y:Int}(hu:g bu=none)(hq:g bq=none)(hne:bu≠bq)(sv:SlI .u64 g VA vs)(dv:Dig b64 vs)(hn:vs.length=mm+2)(hv1:b64<=2*vs.getD (mm+1) 0)(hs:s<64)(hY:val b64 vs=Y)(hYb:Y=b*2^s)(du:Dig b64 us0)(hN:us0.length=N)(hua:val b64 us0=a*2^s)(hxn:N=xn+1)(hnq:N=nq+(mm+2))(hnq1:1<=nq)(hbig:N<=20000000000001)(htop:val b64 (us0.drop nq)<Y)
 (hK:∀ A1 m1 c1 A2 m2 c2 h',g.le h'->m1<=c1->m2<=c2->Mw h' A1 m1 (a/b)->Mw h' A2 m2 (a%b)->K (.tuple #[.slice A1 m1 c1,.slice A2 m2 c2]) h'):
 Q3 prog xn (mm+2) K (s:Int) VA (mm+2) vc (some ⟨bu,0,none⟩) N N (some ⟨bq,0,none⟩) nq nq (P0 .u64 230 g bu us0 bq (aE nq 0)):=by
 have hp:0<(2:Int)^s:=bJ dc
 have a3:Y<b64^(mm+2):=by rw [<- hY,<- hn];exact H1 dc dv
 have ba:0<Y:=by have:=C2 dc (du.drop nq);omega
 have e0:B6 ((xn:Int)-((mm+2:Nat):Int))=(nq:Int)-1:=by rw [B4 o o];omega
 unfold Q3
 refine ⟨fun l h'=>∃ (k:Nat) (us qs:List Int),l=[I ((k:Int)-1)]/\k<=nq/\us.length=N/\qs.length=nq/\Dig b64 us/\Dig b64 qs/\h'=P0 .u64 230 g bu us bq qs/\val b64 (us.drop k)<Y/\val b64 us0=val b64 (qs.drop k)*Y*b64^k+val b64 us,fun l _=>(iAt l 0+1).toNat,⟨nq,us0,_,by rw [e0],o,hN,by simp,du,F3 dc _,rfl,htop,by simp [val]⟩,?_⟩
 rintro j a8 ⟨k,us,qs,ax,hk,O,af,x,ai,rfl,ao,hv⟩
 obtain rfl:j=(k:Int)-1:=by simpa using ax
 have ad:g.le (P0 .u64 230 g bu us bq qs):=Fe hu hq hne
 have su:SlI .u64 (P0 .u64 230 g bu us bq qs) (some ⟨bu,0,none⟩) us:=Ia hne
 unfold Z8
 refine B5 (fun h1=>?_) (fun h1=>?_)
 ·obtain ⟨j,rfl⟩:∃ j,k=j+1:=⟨k-1,o⟩
  have ej:((j+1:Nat):Int)-1=(j:Int):=o
  rw [ej]
  have e1:B6 ((j:Int)+((mm+2:Nat):Int))=((j+(mm+2):Nat):Int):=by rw [B4 o o];omega
  have e2:B6 (((j+(mm+2):Nat):Int)+1)=((j+(mm+3):Nat):Int):=by rw [B4 o o];omega
  simp only [e1,e2,aC]
  have A:=x.drop j
  have M:(us.drop j).length=N-j:=by rw [bY,O]
  have z:val b64 ((us.drop j).drop (mm+3))=0:=by
   have:=T7 (B:=b64) dc (n:=mm+2) (x.drop (j+1)) o
   rw [cL] at this ⊢
   rw [show j+(mm+3)=j+1+(mm+2) from o];exact this
  have aj:=Lp b64 us j
  have au:val b64 (us.drop j)<Y*b64:=by
   have bd:=I4 x j
   rw [aj]
   have t1:b64*(val b64 (us.drop (j+1))+1)<=b64*Y:=aG o dc
   have t2:b64*(val b64 (us.drop (j+1))+1)=b64*val b64 (us.drop (j+1))+18446744073709551616:=by show (18446744073709551616:Int)*_=_;grind
   have t3:Y*b64=b64*Y:=aZ _ _
   omega
  have L:=D9 b64 (us.drop j) (i:=mm+3) o
  rw [z,dQ,dS] at L
  have aw:=E5 b64 (us.drop j) (mm+2)
  have hX:val b64 (us.drop j)=val b64 ((us.drop j).take (mm+2))+b64^(mm+2)*(us.drop j).getD (mm+2) 0:=by rw [L];exact aw
  refine ⟨⟨o,o⟩,⟨o,o⟩,?_⟩
  have sw:SlI .u64 (P0 .u64 230 g bu us bq qs) (Q7 (some ⟨bu,0,none⟩) N j 1) ((us.drop j).take (mm+3)):=by
   have:=su.cut (c:=N) (l:=j) (m:=j+(mm+3)) o o o
   rwa [show j+(mm+3)-j=mm+3 from o] at this
  generalize hXX:val b64 (us.drop j)=X at *
  refine Ku (m:=mm) (X:=X) (Y:=Y) sw (sv.mono ad) (by rw [aP,M];omega) hn.symm (A.take _) dv (by rw [aP,M];omega) hn o hv1 L.symm hY au ?_
  intro q q0 q1 q2 q3
  refine ⟨_,rfl,⟨o,o⟩,⟨o,o⟩,?_⟩
  have w0:=Yw (e:=230) (us:=us) (qs:=qs) hu hne
  have ay:SlI .u64 (blk .u64 230 g bq qs) VA vs:=sv.mono (V8 hq qs)
  have hW:(us.drop j).take (j+(mm+2)-j)=(us.drop j).take (mm+2):=by rw [show j+(mm+2)-j=mm+2 from o]
  have w1:=w0.sub (l:=j) (m:=j+(mm+2)) (c:=N) o o o
  rw [hW] at w1
  have Q:((us.drop j).take (mm+2)).length=mm+2:=by rw [aP,M];omega
  refine Ca w1 (by rw [Q];omega) ay hn.symm (A.take _) dv (by rw [Q,hn]) ⟨q0,q1⟩ o ?_
  intro W c h2 r E y H w2
  rw [Q] at r H
  refine ⟨_,rfl,?_⟩
  have w3:=w0.whole (l:=j) (m:=j+(mm+2)) o o o w2
  have ab:=Wx hne w3
  have p:(us.take j).length=j:=by rw [aP,O];omega
  have ak:us.drop (j+(mm+2))=(us.drop j).drop (mm+2):=by rw [cL]
  rw [cC,ak] at ab
  subst ab
  generalize hws:us.drop j=ws at *
  have u:(W++ws.drop (mm+2)).length=ws.length:=by rw [bB,bY];omega
  have dW:Dig b64 (W++ws.drop (mm+2)):=E.append (A.drop _)
  have aa:(W++ws.drop (mm+2)).getD (mm+2) 0=ws.getD (mm+2) 0:=by
   simp only [dV]
   rw [List.getElem?_append_right o,r,Nat.sub_self,List.getElem?_drop,eM]
  have V:=I4 A (mm+2)
  have a0:(us.take j++(W++ws.drop (mm+2))).length=N:=by rw [bB,u,p];omega
  have al:SlI .u64 (P0 .u64 230 g bu (us.take j++(W++ws.drop (mm+2))) bq qs) (some ⟨bu,0,none⟩) (us.take j++(W++ws.drop (mm+2))):=Ia hne
  have a2:j+(mm+2)=(mm+2)+(us.take j).length:=o
  refine al.load a0.symm o o ?_
  rw [aC,a2,Y4,aa]
  refine ⟨_,rfl,o,o,?_⟩
  refine Nq (i:=mm+2+(us.take j).length) E3 hne o ?_
  rw [Cm]
  have hP:0<b64^(mm+2):=C9 dc _
  have ap:=H1 dc E
  have a7:=C2 dc E
  rw [r] at ap
  rw [hY] at H
  have hD:X-q*Y=val b64 W+(ws.getD (mm+2) 0-c)*b64^(mm+2):=by rw [H,hX];grind
  have S:X-q*Y<Y:=by
   have:(q+1)*Y=q*Y+Y:=gz0
   omega
  have a6: -Y<=X-q*Y:=by
   have:(q-1)*Y=q*Y-Y:=gz0
   omega
  have be:0<=X:=by
   have t1:=C2 dc (A.take (mm+2))
   have t2:=aR (aO hP) V.1
   omega
  have a4:ws.getD (mm+2) 0-c=0\/ws.getD (mm+2) 0-c= -1:=by
   have t2:ws.getD (mm+2) 0-c<1:=by
    by_cases y:ws.getD (mm+2) 0-c<1
    ·exact y
    ·have:=aD (show 1<=ws.getD (mm+2) 0-c from o) (aO hP);omega
   have t3: -2<ws.getD (mm+2) 0-c:=by
    by_cases y: -2<ws.getD (mm+2) 0-c
    ·exact y
    ·have:=aD (show ws.getD (mm+2) 0-c <= -2 from o) (aO hP);omega
   omega
  have C:∀ v,((W++ws.drop (mm+2)).set (mm+2) v).take (mm+2)=W:=by
   intro v
   rw [List.take_set_of_le o,cR r]
  have ac:∀ v,((W++ws.drop (mm+2)).set (mm+2) v).getD (mm+2) 0=v:=by
   intro v
   rw [dV,List.getElem?_set_self o];rfl
  have ah:∀ v,((W++ws.drop (mm+2)).set (mm+2) v).drop (mm+3)=ws.drop (mm+3):=by
   intro v
   rw [C8 o,show mm+3=(mm+2)+1 from o,<- cL,dZ r,cL]
  refine ⟨fun l h'=>∃ d w,l=[U w]/\h'=P0 .u64 230 g bu (us.take j++d) bq qs/\d.length=ws.length/\Dig b64 d/\d.drop (mm+3)=ws.drop (mm+3)/\d.getD (mm+2) 0=0/\val b64 (d.take (mm+2))=X-w*Y/\0<=X-w*Y/\X-w*Y<Y/\0<=w/\w<18446744073709551616,B5 (fun h3=>?_) (fun h3=>?_),?_⟩
  ·have G:ws.getD (mm+2) 0-c= -1:=o
   rw [G] at hD ⊢
   have ag:B9 (-1)=18446744073709551615:=by rw [E4];omega
   rw [ag]
   have az:1<=q:=by
    by_cases y:1<=q
    ·exact y
    ·have:q=0:=o
     subst this;omega
   have e5:(q-1)*Y=q*Y-Y:=gz0
   have bk:=A3z (g:=g) (bu:=bu) (bq:=bq) (pre:=us.take j) (qs:=qs) (VA:=VA) (vs:=vs) (n:=mm+2) (N:=N) (ws:=(W++ws.drop (mm+2)).set (mm+2) 18446744073709551615) (q:=q)
    (J:=fun l h'=>∃ d w,l=[U w]/\h'=P0 .u64 230 g bu (us.take j++d) bq qs/\d.length=ws.length/\Dig b64 d/\d.drop (mm+3)=ws.drop (mm+3)/\d.getD (mm+2) 0=0/\val b64 (d.take (mm+2))=X-w*Y/\0<=X-w*Y/\X-w*Y<Y/\0<=w/\w<18446744073709551616)
    hu hq hne sv dv hn.symm (dW.set dc) (by rw [bB,dG,u,p];omega) (by rw [dG,u];omega) o (by rw [C,hY];omega) (by rw [C,hY];omega) (ac _) ?_
   ·rw [p] at bk;exact bk
   ·intro d g1 g2 g3 g4 g5
    rw [C,hY] at g5
    rw [B8 (n:=q-1) o o]
    refine ⟨d,q-1,rfl,rfl,by rw [g1,dG,u],g2,by rw [g3,ah],g4,o,o,o,o,o⟩
  ·have F:ws.getD (mm+2) 0-c=0:=o
   rw [F] at hD ⊢
   have ar:B9 0=0:=by rw [E4];omega
   rw [ar]
   exact ⟨(W++ws.drop (mm+2)).set (mm+2) 0,q,rfl,rfl,by rw [dG,u],dW.set dc,ah _,ac _,by rw [C];omega,o,S,q0,q1⟩
  ·rintro q4 a5 ⟨d,w,an,rfl,g1,g2,g3,g4,g5,g6,g7,g8,g9⟩
   obtain rfl:q4=w:=by simpa using an
   refine ⟨_,rfl,o,o,?_⟩
   refine Nr (i:=j) E3 o ?_
   rw [B4 o o]
   have T:val b64 d=X-q4*Y:=by
    have z1:=D9 b64 d (i:=mm+3) o
    rw [g3,z,E5,g4,g5] at z1
    simp at z1
    omega
   refine ⟨⟨j,us.take j++d,qs.set j q4,rfl,o,by rw [bB,g1,p];omega,by simpa using af,(x.take j).append g2,ai.set ⟨g8,g9⟩,rfl,?_,?_⟩,by simp only [iAt,aI];omega⟩
   ·rw [dZ p,T];exact g7
   ·have R:=D9 b64 us (i:=j) o
    rw [hws,hXX] at R
    rw [hv,M0 o,G2,p,T,R,bG]
    simp only [val]
    grind
 ·have aq:k=0:=o
  subst aq
  simp at ao hv
  have bc:0<b:=by
   by_cases y:0<b
   ·exact y
   ·have:=aD (show b<=0 from o) (aO hp);omega
  have a9:=C2 dc x
  have hR:val b64 us=(a-val b64 qs*b)*2^s:=by
   rw [hua,hYb] at hv
   grind
  have av:0<=a-val b64 qs*b:=by
   by_cases y:0<=a-val b64 qs*b
   ·exact y
   ·have:=aD (show a-val b64 qs*b <= -1 from o) (aO hp);omega
  have am:a-val b64 qs*b<b:=by
   by_cases y:a-val b64 qs*b<b
   ·exact y
   ·have:=aD (show b<=a-val b64 qs*b from o) (aO hp);omega
  have D:a/b=val b64 qs:=by
   have:a=(a-val b64 qs*b)+val b64 qs*b:=o
   rw [this,dE _ _ o,bH av am,cE]
  have ae:a%b=a-val b64 qs*b:=by
   have:=Int.emod_def a b
   rw [this,D,aZ]
  rw [D,ae] at hK
  rw [<- af]
  refine I7 A01 ai (bF _) o ?_
  intro m1 ag M1
  refine ⟨_,_,_,rfl,?_⟩
  rw [<- O]
  refine I7 su x (bF _) o ?_
  intro m2 bb M2
  refine ⟨_,_,_,rfl,?_⟩
  rw [B8 o o]
  refine Y9 M2 (by have:=M2.len_le dc (j:=mm+2) o;omega) o ?_
  intro A3 m3 c3 h3 l3 k3 M3
  have a1:val b64 us/2^s=a-val b64 qs*b:=by rw [hR,dM _ o]
  rw [a1] at M3
  exact ⟨_,_,_,rfl,hK _ _ _ _ _ _ _ (A0 ad l3) o k3 (M1.mono l3) M3⟩
end
section
variable {h g:bA} {K:VP} {A B:Option bS} {ac bc:Nat}
set_option maxHeartbeats 1000000 in
def V3{x y:Int}{an bn:Nat}(ma:Mw h A an x)(mb:Mw h B bn y)(ha:an<=ac)(hbc:bn<=bc)(hy:y≠0)(hl:an<=20000000000000)(hl2:bn<=20000000000000)
 (hK:∀ A1 m1 c1 A2 m2 c2 h',h.le h'->m1<=c1->m2<=c2->Mw h' A1 m1 (x/y)->Mw h' A2 m2 (x%y)->K (.tuple #[.slice A1 m1 c1,.slice A2 m2 c2]) h'):aH prog 260 #[.slice A an ac,.slice B bn bc] h K:=by
 have L:=ma.nonneg dc
 have ap:=mb.nonneg dc
 have a4:=mb.len_zero dc
 have z:=ma.lt dc
 have a8:=mb.lt dc
 refine Gg _ _ _ _ _ _ ?_
 unfold Ee
 refine F5 ma mb o ⟨_,rfl,B5 (fun D=>?_) (fun D=>D6 (fun h2=>?_) (fun h2=>?_))⟩
 ·have M:x<y:=by
   unfold Ah at D
   by_cases c:x<y
   ·exact c
   ·rw [iN c] at D
    by_cases O:x>y
    ·rw [iP O] at D;omega
    ·rw [iN O] at D;omega
  rw [bH L M,dR L M] at hK
  exact hK none 0 0 _ _ _ _ (B3 h) (bF _) ha Mag.zero ma
 ·obtain ⟨a,rfl,sy,dy,ny,rfl⟩:=mb
  have R:a.length=1:=o
  obtain ⟨d,rfl⟩:∃ d,a=[d]:=by
   cases a with
   | nil=>simp at R
   | cons d r=>
    cases r with
    | nil=>exact ⟨d,rfl⟩
    | cons _ _=>simp at R
  rw [N2] at hy ap hK
  have hd:=dy d (by simp)
  obtain ⟨w,rfl⟩:∃ w:Nat,d=w:=⟨d.toNat,o⟩
  refine sy.load rfl o (by simp) ?_
  show aH _ _ #[_,U (w:Int)] _ _
  have hw:w<18446744073709551616:=by have:=hd.2;have:(w:Int)<18446744073709551616:=this;omega
  refine Hu ma ⟨o,hw⟩ hl ?_
  intro A' m c' h' aj hm a5 hM
  refine ⟨_,_,_,_,rfl,?_⟩
  refine Q6 ⟨aT _ o,by have:=aM x (show (0:Int)<w from o);omega⟩ ?_
  intro A2 m2 c2 h3 G k3 M3
  exact ⟨_,_,_,rfl,hK _ _ _ _ _ _ _ (A0 aj G) hm k3 (hM.mono G) M3⟩
 ·have aq:y<=x:=by
   unfold Ah at D
   by_cases c:x<y
   ·rw [iP c] at D;omega
   ·omega
  have a7:bn<=an:=mb.len_le dc (cV aq z)
  have ax:=mb
  have ak:=ma
  obtain ⟨a,rfl,sy,dy,ny,rfl⟩:=mb
  obtain ⟨mm,hmm⟩:∃ mm,a.length=mm+2:=⟨a.length-2,o⟩
  have gt:=I4 dy (mm+1)
  have ao:=Lu (m:=mm+1) hmm ny
  obtain ⟨H,q⟩:=Q9 (B:=b64) dc dy (m:=mm+1) hmm
  have e1:B6 ((a.length:Int)-1)=((mm+1:Nat):Int):=by rw [B4 o o];omega
  rw [e1]
  refine sy.load rfl o o ?_
  rw [aC]
  obtain ⟨t,ht⟩:∃ t:Nat,a.getD (mm+1) 0=t:=⟨(a.getD (mm+1) 0).toNat,o⟩
  rw [ht] at gt ao H q ⊢
  have p:t≠0:=o
  refine J2 o ⟨_,rfl,?_⟩
  obtain ⟨ay,a0⟩:=S3 p
  have a1:H8 t<=64:=Y7 (k:=64) o
  have az:1<=H8 t:=by unfold H8;rw [iN p];omega
  obtain ⟨s,hs⟩:∃ s,s=64-H8 t:=⟨_,rfl⟩
  rw [<- hs]
  have X:s<64:=o
  have b:0<(2:Int)^s:=bJ dc
  have am:=O6 (s:=s) o
  have C:H8 t=64-s:=o
  have au:(t:Int)+1<=2^(64-s):=by
   rw [<- C]
   have:((t+1:Nat):Int)<=((2^H8 t:Nat):Int):=o
   simpa using this
  have al:(2:Int)^(63-s)<=t:=by
   have:((2^(H8 t-1):Nat):Int)<=((t:Nat):Int):=o
   rw [show H8 t-1=63-s from o] at this
   simpa using this
  have F:(2:Int)^s*2^(63-s)=9223372036854775808:=by
   rw [<- aW,show s+(63-s)=63 from o];decide
  have ai:B9 (s:Int)=(s:Int):=B8 o o
  rw [ai]
  have g:=C9 (B:=b64) dc (mm+1)
  have ah:val b64 a*2^s<b64^(mm+2):=by
   have t2:val b64 a*2^s<((t:Int)+1)*b64^(mm+1)*2^s:=bE H b
   have t3:((t:Int)+1)*b64^(mm+1)*2^s=((t:Int)+1)*2^s*b64^(mm+1):=gz0
   have t4:((t:Int)+1)*2^s*b64^(mm+1)<=18446744073709551616*b64^(mm+1):=by
    apply aD _ (aO g)
    rw [<- am,aZ (2^s)]
    exact aD au (aO b)
   have t5:b64^(mm+2)=18446744073709551616*b64^(mm+1):=by rw [bG b64 (mm+1),aZ]
   omega
  have a6:9223372036854775808*b64^(mm+1)<=val b64 a*2^s:=by
   have t1:(t:Int)*b64^(mm+1)*2^s<=val b64 a*2^s:=aD q (aO b)
   have t2:9223372036854775808*b64^(mm+1)<=(t:Int)*2^s*b64^(mm+1):=by
    apply aD _ (aO g)
    rw [<- F,aZ (t:Int)]
    exact aG al o
   have t3:(t:Int)*2^s*b64^(mm+1)=(t:Int)*b64^(mm+1)*2^s:=gz0
   omega
  refine L5 ax hbc hl2 o ?_
  intro A1 n1 c1 g1 l1 k1 M1
  refine ⟨_,_,_,rfl,?_⟩
  have ab:n1=mm+2:=by
   have q1:=M1.len_le dc ah
   have q2:=M1.lt dc
   by_cases c:n1=mm+2
   ·exact c
   ·have:=C7 (B:=b64) dc (show n1<=mm+1 from o)
    omega
  subst ab
  obtain ⟨vs,V,sv,dv,nv,aa⟩:=M1
  have af:b64<=2*vs.getD (mm+1) 0:=by
   obtain ⟨q1,q2⟩:=Q9 (B:=b64) dc dv (m:=mm+1) V.symm
   rw [aa] at q1
   have:9223372036854775808<vs.getD (mm+1) 0+1:=by
    by_cases c:9223372036854775808<vs.getD (mm+1) 0+1
    ·exact c
    ·have:=aD (show vs.getD (mm+1) 0+1<=9223372036854775808 from o) (aO g);omega
   show (18446744073709551616:Int)<=_
   omega
  have eN:B6 ((an:Int)+1)=((an+1:Nat):Int):=by rw [B4 o o];omega
  rw [eN]
  refine H0 J9 o o o ?_
  intro bu ar
  rw [aC]
  refine ⟨_,_,_,rfl,?_⟩
  have w0:=Win.blk .u64 230 ar (aE (an+1) 0)
  refine w0.call ?_
  refine L5 (ak.mono l1) ha hl o ?_
  intro A3 n3 c3 g3 G k3 M3 h4 w4
  refine ⟨_,_,_,rfl,?_⟩
  have av:x*2^s<b64^(an+1):=by
   have t1:x*2^s<b64^an*2^s:=bE z b
   have t2:b64^an*2^s<=b64^an*18446744073709551616:=by
    apply aG _ (aO (C9 dc an))
    have:=C7 (B:=2) dc (show s<=64 from o)
    have e:(2:Int)^64=18446744073709551616:=dc
    omega
   rw [bG];show _<b64^an*(18446744073709551616:Int);omega
  have a3:=M3.len_le dc av
  obtain ⟨us,aw,ag,ad,a2,S⟩:=M3
  refine Bf J9 w4 (by simp) (ag.mono w4.le) aw (by simp;omega) ?_
  intro h5 w5
  refine ⟨_,rfl,?_⟩
  rw [bI] at w5
  generalize hu0:us++aE (an+1-us.length) (0:Int)=us0 at w5
  have W:us0.length=an+1:=by rw [<- hu0];simp;omega
  have u:Dig b64 us0:=by rw [<- hu0];exact ad.append (F3 dc _)
  have l:val b64 us0=x*2^s:=by rw [<- hu0,S7];exact S
  obtain ⟨nq,hnq⟩:∃ nq,an+1=nq+(mm+2):=⟨an+1-(mm+2),o⟩
  have eq:B6 (B6 ((an:Int)-(a.length:Int))+1)=(nq:Int):=by
   rw [B4 (n:=(an:Int)-(a.length:Int)) o o,B4 o o];omega
  rw [eq]
  refine H0 J9 o o o ?_
  intro bq j
  rw [aC]
  refine ⟨_,_,_,rfl,?_⟩
  have ae:h5=blk .u64 230 g3 bu us0:=by rw [w5.eq];simp [blk]
  subst ae
  have T:g3 bu=none:=w5.free
  have E:bu≠bq:=by
   rintro rfl
   unfold blk at j
   rw [C4] at j;cases j
  have Q:g3 bq=none:=by
   have:=j
   unfold blk at this
   rwa [B7 _ _ E.symm] at this
  rw [hmm]
  refine Oo (us0:=us0) (N:=an+1) (xn:=an) T Q E (sv.mono G) dv V.symm af X aa rfl u W l rfl hnq o o ?_ ?_
  ·have s1:=D9 b64 us0 (i:=nq) o
   have s2:=C2 dc (u.take nq)
   have s3:val b64 us0<b64^an*2^s:=by
    rw [l];exact bE z b
   have s4:b64^(mm+1)<=val b64 a:=by
    have:=aD (show 1<=(t:Int) from o) (aO g);omega
   have s5:b64^nq*(b64^(mm+1)*2^s)<=b64^nq*(val b64 a*2^s):=aG (aD s4 (aO b)) (aO (C9 dc nq))
   have s6:b64^nq*(b64^(mm+1)*2^s)=b64^an*2^s:=by
    rw [<- cO,<- aW,show nq+(mm+1)=an from o]
   by_cases c:val b64 (us0.drop nq)<val b64 a*2^s
   ·exact c
   ·have:=aG (show val b64 a*2^s<=val b64 (us0.drop nq) from o) (aO (C9 (B:=b64) dc nq));omega
  ·intro A5 m5 c5 A6 m6 c6 h6 l6 k5 k6 M5 M6
   exact hK _ _ _ _ _ _ _ (A0 l1 (A0 G l6)) k5 k6 M5 M6
end
def Kw{x a b p:Int}(h:a+p*b=x)(h0:0<=a)(h1:a<p):x/p=b/\x%p=a:=(Int.ediv_emod_unique o).2 ⟨h,h0,h1⟩
def Im{P:aV}{h:bA}{A:Option bS}{n m c s:Nat}{cs:List dO}(hl:cs.length=n*s)(hc:cs=[]\/∃ a,A=some a/\∀ j v,cs[j]? = some v->h.cell? (a.add j)=some v){K:Array dO->bA->Prop}(x:K cs.toArray h):
 wpH P (Builtin.firstCells s n (.slice A m c)) K h:=by
 cases A with
 | none=>
  rcases hc with rfl|⟨a,e,_⟩
  ·exact x
  ·cases e
 | some a=>
  show wpH P (loadCells a (n*s)) K h
  rcases hc with rfl|⟨b,e,hc⟩
  ·exact L6 (cs:=[]) hl.symm (fun j v e=>by simp at e) x
  ·cases e
   exact L6 hl.symm hc x
def Yr{P:aV}{t e ty:cM}{k:dA}{bytes:Nat}(s:SliceT P t e (.int k 0) 1 bytes){h g:bA}{b:Nat}{A:Option bS}{pre post:List dO}{xs:List Int}{n c m d:Nat}(w:Win k h g b e A pre xs post)(hn:n=xs.length){B:Option bS}{ys:List Int}(sy:SlI k h B ys)(hm:min m xs.length=ys.length){K:VP}
 (x:∀ h',Win k h' g b e A pre (ys++xs.drop ys.length) post->K (I ys.length) h'):wpH P (bW #[t,t] ty #[.slice A n c,.slice B m d]) K h:=by
 subst hn
 obtain ⟨i,y,z,p,q⟩:=s.parts
 unfold bW
 simp only [List.getElem?_toArray,aI,aQ,C1,D4 s.und,K8 y,G6,Builtin.lenOf,p]
 have j:Nat.min m xs.length=ys.length:=hm
 rw [j]
 refine Im (s:=1) (cs:=ys.map (bU k)) (by simp) sy ?_
 cases A with
 | none=>
  rcases w.at_ with l|l
  ·have:ys=[]:=cA gz0
   subst this
   exact x h (by assumption)
  ·cases l
 | some a=>
  simp only [C1]
  rcases w.at_ with l|l
  ·have:ys=[]:=cA gz0
   subst this
   exact x h (by assumption)
  ·cases l
   rw [w.eq]
   refine J7 (ys.map (bU k)) pre.length 0 (pre++xs.map (bU k)++post) gz0 (fun v r=>?_) ?_
   ·obtain ⟨u,_,rfl⟩:=List.mem_map.1 r;rfl
   ·refine x _ ⟨w.free,?_,?_⟩
    ·congr 3
     unfold K0
     rw [eM,cC pre,cR rfl,dY]
     rw [dX,aY (show pre.length<=pre.length+ys.length from o),eF,cH]
     rw [cP gz0,<- List.map_drop,List.map_append]
     grind
    grind
section
variable {h g:bA} {K:VP} {A B:Option bS} {ac bc:Nat}
def Zs(a n:Nat):(if (a:Int)<(n:Int) then (a:Int) else (n:Int))=((min n a:Nat):Int):=o
def Da{xs:List Int}(d:Dig b64 xs)(n:Nat):val b64 xs/b64^n=val b64 (xs.drop (min n xs.length))/\val b64 xs%b64^n=val b64 (xs.take (min n xs.length)):=by
 by_cases c:n<=xs.length
 ·rw [aK c]
  have e:=D9 b64 xs c
  have a:=C2 dc (d.take n)
  have b:=H1 dc (d.take n)
  rw [aP,aK c] at b
  exact Kw e.symm a b
 ·rw [dU o,List.drop_length,bX]
  have a:=C2 dc d
  have b:=H1 dc d
  have g:=C7 (B:=b64) dc (show xs.length<=n from o)
  exact Kw (by simp [val]) a o
def O4{x:Int}{an n:Nat}(ma:Mw h A an x)(ha:an<=ac)(hK:∀ A' m c',m<=c'->m<=an->Mw h A' m (x/b64^n)->K (.slice A' m c') h):aH prog 278 #[.slice A an ac,I n] h K:=by
 obtain ⟨a,rfl,d,b,e,rfl⟩:=ma
 refine (fnk func278) ?_
 rw [Zs,aC]
 refine ⟨⟨o,o⟩,hK _ _ _ o o ?_⟩
 rw [(Da b n).1,<- bY]
 refine Mw.of (Kx d o ha) (b.drop _) ?_
 by_cases c:min n a.length<a.length
 ·exact Dp e c
 ·rw [aY o];exact Norm.nil
def Y3{x:Int}{an n:Nat}(ma:Mw h A an x)(ha:an<=ac)(hl:an<=100000000000000)(hK:∀ A' m c',m<=c'->m<=n->m<=an->Mw h A' m (x%b64^n)->K (.slice A' m c') h):aH prog 277 #[.slice A an ac,I n] h K:=by
 obtain ⟨b,rfl,c,a,d,rfl⟩:=ma
 refine (fnk func277) ?_
 rw [Zs,aC,F7,bN,bN]
 refine ⟨⟨o,o⟩,Bn (By c (m:=min n b.length) o ha) (a.take _) gz0 (Da a n).2.symm o o ?_⟩
 grind
def Az{x y:Int}{an bn n:Nat}(ma:Mw h A an x)(mb:Mw h B bn y)(hbn:bn<=n)(hl:n+an<=34000000000000)(hK:∀ A' m c' h',h.le h'->m<=c'->Mw h' A' m (x*b64^n+y)->K (.slice A' m c') h'):aH prog 280 #[.slice A an ac,.slice B bn bc,I n] h K:=by
 obtain ⟨a,rfl,s,D,H,rfl⟩:=ma
 obtain ⟨g,rfl,q,w,F,rfl⟩:=mb
 refine (fnk func280) ?_
 have z:B6 ((n:Int)+a.length)=((n+a.length:Nat):Int):=by rw [B4 o o];omega
 rw [z]
 refine H0 J9 o o o ?_
 intro b p
 rw [aC]
 refine ⟨_,_,_,rfl,?_⟩
 have k:=Win.blk .u64 230 p (aE (n+a.length) 0)
 refine Bf J9 k gz0 (q.mono k.le) rfl gz0 ?_
 intro G d
 refine ⟨_,rfl,⟨o,o⟩,?_⟩
 rw [bI] at d
 generalize hz:g++aE (n+a.length-g.length) (0:Int)=zs at d
 have r:zs.length=n+a.length:=gz0
 have C:=d.sub (l:=n) (m:=n+a.length) (c:=n+a.length) o o o
 refine Bf J9 C gz0 (s.mono d.le) rfl gz0 ?_
 intro E j
 rw [aY gz0,bV] at j
 have e:=d.whole (l:=n) (m:=n+a.length) o o o j
 rw [aY (show zs.length<=n+a.length from o),bV] at e
 have i:zs.take n=g++aE (n-g.length) 0:=by
  rw [<- hz,List.take_append,aX o,cG]
  grind
 rw [i] at e
 refine ⟨_,rfl,Bn e.sl ((w.append (F3 dc _)).append D) gz0 rfl o o ?_⟩
 intro m u M
 refine ⟨_,_,_,rfl,hK _ _ _ _ e.le u ?_⟩
 rw [G2,S7] at M
 grind
def A1l{x y:Int}(hx:0<=x/\x<18446744073709551616)(hy:0<=y/\y<18446744073709551616)(hK:K (.tuple #[U (x*y/18446744073709551616),U (x*y%18446744073709551616)]) h):aH prog 155 #[U x,U y] h K:=by
 refine (fnk func155) ?_
 exact Dq hx hy ⟨_,_,rfl,hK⟩
def Ou{v:Int}{n:Nat}(s:SlI .u64 h A [v])(hn:0<n)(hl:n<=10000000000000)(hK:∀ A' h',h.le h'->SlI .u64 h' A' (aE n v)->K (.slice A' n n) h'):aH prog 287 #[.slice A 1 ac,I n] h K:=by
 refine (fnk func287 [(8,[8],[],[I 0])]) ?_
 refine B5 (fun d=>o) (fun _=>?_)
 rw [B8 (n:=((1:Nat):Int)) o o,B8 (n:=(n:Int)) o o]
 refine A1l o o ⟨_,_,rfl,?_⟩
 have B:((1:Nat):Int)*(n:Int)/18446744073709551616=0:=o
 have z:((1:Nat):Int)*(n:Int)%18446744073709551616=n:=o
 rw [B,z]
 refine B5 (fun d=>o) (fun _=>?_)
 refine B5 (fun d=>o) (fun _=>?_)
 rw [B4 (n:=(n:Int)) o o]
 refine H0 J9 o o o ?_
 intro b r
 refine ⟨_,_,_,rfl,?_⟩
 have p:=Win.blk .u64 230 r (aE n 0)
 refine Bf J9 p (by simp) (s.mono p.le) rfl gz0 ?_
 intro d g
 refine ⟨_,rfl,?_⟩
 rw [bI] at g
 refine ⟨fun l e=>∃ k:Nat,l=[I k]/\0<k/\k<=n/\Win .u64 e h b 230 (some ⟨b,0,none⟩) [] (aE k v++aE (n-k) 0) [],fun l _=>n-(iAt l 0).toNat,⟨1,rfl,o,hn,g⟩,?_⟩
 rintro i e ⟨k,D,x,a,w⟩
 obtain rfl:i=(k:Int):=gz0
 refine B5 (fun q=>?_) (fun q=>?_)
 ·have y:(aE k v++aE (n-k) (0:Int)).length=n:=gz0
  refine ⟨⟨o,o⟩,⟨o,o⟩,?_⟩
  simp only [aC,F7,bN]
  have E:=w.sub (l:=k) (m:=n) (c:=n) o o o
  have u:SlI .u64 e (some ⟨b,0,none⟩) (aE (min k (n-k)) v):=by
   have:=By w.sl (c:=n) (m:=min k (n-k)) o o
   grind
  refine Yr J9 E (by simp) u (by simp) ?_
  intro H j
  rw [bO] at j ⊢
  have F:=w.whole (l:=k) (m:=n) o o (by simp;omega) j
  have C:B6 ((k:Int)+(min k (n-k):Nat))=((k+min k (n-k):Nat):Int):=by rw [B4 o o];omega
  refine ⟨_,rfl,?_⟩
  rw [C]
  refine ⟨⟨_,rfl,o,o,?_⟩,?_⟩
  ·have G:(aE k v++aE (n-k) (0:Int)).take k++(aE (min k (n-k)) v++(aE (n-k) (0:Int)).drop (min k (n-k)))++(aE k v++aE (n-k) (0:Int)).drop n=aE (k+min k (n-k)) v++aE (n-(k+min k (n-k))) 0:=by
    rw [cR (by simp),aY (show (aE k v++aE (n-k) (0:Int)).length<=n from o),bV,bI,<- cC,cN]
    grind
   grind
  ·simp only [iAt,aI];omega
 ·have a:k=n:=o
  subst a
  have:=w.sl
  rw [Nat.sub_self,List.replicate_zero,bV] at this
  exact hK _ _ w.le this
end
def Mw.high{h:bA}{A:Option bS}{an ac k:Nat}{x:Int}(ma:Mw h A an x)(ha:an<=ac)(hk:k<=an):Mw h (Q7 A ac k 1) (an-k) (x/b64^k):=by
 obtain ⟨c,rfl,d,b,g,rfl⟩:=ma
 have e:=(Da b k).1
 rw [aK hk] at e
 rw [e,<- bY]
 refine Mw.of (Kx d hk ha) (b.drop _) ?_
 by_cases a:k<c.length
 ·exact Dp g a
 ·rw [aY o];exact Norm.nil
def Xd{x P X2 yh top:Int}(hP:0<P)(h1:x<P*P*(X2+1))(h2:P*top<=x)(hlt:X2<yh):top<P*yh:=by
 by_cases a:top<P*yh
 ·exact a
 ·have c:P*(P*yh)<=P*top:=aG o o
  have b:P*P*(X2+1)<=P*P*yh:=aG o (aR o o)
  grind
def Xe{x P X2 yh top:Int}(hP:0<P)(h1:P*P*X2<=x)(h2:x<P*(top+1))(hge:yh<=X2):P*yh<=top:=by
 by_cases a:P*yh<=top
 ·exact a
 ·have c:P*(top+1)<=P*(P*yh):=aG o o
  have b:P*P*yh<=P*P*X2:=aG o (aR o o)
  grind
def A02(N:Nat):Prop:=∀ {h:bA} {K:VP} {A B:Option bS} {ac bc an bn:Nat} {x y:Int},bn<=N->Mw h A an x->Mw h B bn y->an<=ac->bn<=bc->an<=19000000000000->bn<=9300000000000->0<bn->9223372036854775808*b64^(bn-1)<=y->x<b64^bn*y->
 (∀ A1 m1 c1 A2 m2 c2 h',h.le h'->m1<=c1->m2<=c2->Mw h' A1 m1 (x/y)->Mw h' A2 m2 (x%y)->K (.tuple #[.slice A1 m1 c1,.slice A2 m2 c2]) h')->aH prog 279 #[.slice A an ac,.slice B bn bc] h K
section
variable {h g:bA} {K:VP} {A B:Option bS} {ac bc:Nat}
def T5{x y:Int}:Ah x y<0↔x<y:=by
 unfold Ah
 omega
set_option maxHeartbeats 1000000 in
def Ol{x y q0 R0 pr:Int}{m bn nq cq np cp nr cr:Nat}{Aq Ap Ar:Option bS}(hx0:0<=x)(mb:Mw h B bn y)(hb:bn<=bc)(hl2:bn<=9300000000000)(hbm:bn=2*m)(mq:Mw h Aq nq q0)(hq:nq<=cq)(mp:Mw h Ap np pr)(hp2:pr<b64^bn)
 (mr:Mw h Ar nr R0) (hr:nr<=cr) (hq0:q0<b64^m) (hR:R0-pr=x-q0*y) (hy:x-q0*y<y)
 (hK:∀ A1 m1 c1 A2 m2 c2 h',h.le h'->m1<=c1->m2<=c2->Mw h' A1 m1 (x/y)->Mw h' A2 m2 (x%y)->K (.tuple #[.slice A1 m1 c1,.slice A2 m2 c2]) h'):
 Q1 prog B bn bc K Aq nq cq Ap np cp Ar nr cr h:=by
 have N:=mb.lt dc
 have Q:=mb.nonneg dc
 have L:=mp.nonneg dc
 unfold Q1
 refine ⟨fun l c=>∃ (Aq Ar:Option bS) (nq cq nr cr:Nat) (q R:Int),l=[.slice Aq nq cq,.slice Ar nr cr]/\h.le c/\Mw c Aq nq q/\nq<=cq/\Mw c Ar nr R/\nr<=cr/\q<b64^m/\R-pr=x-q*y/\x-q*y<y,fun l c=>match l with|[.slice A n _,_]=>Uu b64 c A n|_=>0,⟨_,_,_,_,_,_,_,_,rfl,B3 h,mq,hq,mr,hr,hq0,hR,hy⟩,?_⟩
 rintro A1 O c1 A2 S c2 c ⟨Aq,Ar,nq,cq,nr,cr,q,R,w,e,mq,hq,mr,hr,hq0,hR,hy⟩
 simp only [dH,dP,and_true] at w
 obtain ⟨⟨rfl,rfl,rfl⟩,rfl,rfl,rfl⟩:=w
 have E:S<=bn+1:=mr.len_le dc (by
  rw [bG]
  show R<b64^bn*18446744073709551616
  omega)
 have M:O<=m:=mq.len_le dc hq0
 refine F5 mr (mp.mono e) o ⟨_,rfl,?_⟩
 refine B5 (fun i=>?_) (fun i=>?_)
 ·rw [T5] at i
  have C:=mq.nonneg dc
  have s:1<=q:=by
   by_cases T:1<=q
   ·exact T
   ·obtain rfl:q=0:=o
    omega
  refine J4 mr (mb.mono e) hr hb o o ?_
  intro A3 D H k d g M3
  refine ⟨_,_,_,rfl,P7 J9 rfl ?_⟩
  intro b r
  refine ⟨_,_,_,rfl,?_⟩
  have j:=Heap.le_put (.cells #[U 1] 230) r
  have M1:Mw (k.put b (.cells #[U 1] 230)) (some ⟨b,0,none⟩) 1 1:=⟨[1],rfl,SlI.new k b [1] 230 _,Dig.one dc,by simp [Norm],N2 _ _⟩
  refine E7 ((mq.mono d).mono j) M1 hq o s ?_
  intro A5 V X W u G M5
  refine ⟨_,_,_,rfl,⟨_,_,_,_,_,_,_,_,rfl,A0 e (A0 d (A0 j u)),M5,G,(M3.mono j).mono u,g,o,?_,?_⟩,?_⟩
  ·rw [Int.sub_mul];omega
  ·rw [Int.sub_mul];omega
  ·simp only [P6 M5,P6 mq];omega
 ·rw [T5] at i
  refine E7 mr (mp.mono e) hr o o ?_
  intro A3 D H k d g M3
  obtain ⟨F,z⟩:=Kw (x:=x) (a:=R-pr) (b:=q) (p:=y) (by rw [hR,aZ y];omega) o o
  refine ⟨_,_,_,rfl,hK _ _ _ _ _ _ _ (A0 e d) hq g ?_ ?_⟩
  ·rw [F];exact mq.mono d
  ·rw [z];exact M3
set_option maxHeartbeats 1000000 in
def Gy{N:Nat}(ih:A02 N){x y:Int}{an bn m:Nat}(hm:0<m)(hN:m<=N)(hbm:bn=2*m)(ma:Mw h A an x)(mb:Mw h B bn y)(ha:an<=ac)(hb:bn<=bc)(hl:an<=19000000000000)(hl2:bn<=9300000000000)(htop:9223372036854775808*b64^(bn-1)<=y)(hxy:x<b64^m*y)
 (hK:∀ A1 m1 c1 A2 m2 c2 h',h.le h'->m1<=c1->m2<=c2->Mw h' A1 m1 (x/y)->Mw h' A2 m2 (x%y)->K (.tuple #[.slice A1 m1 c1,.slice A2 m2 c2]) h'):aH prog 286 #[.slice A an ac,.slice B bn bc] h K:=by
 have ag:=ma.nonneg dc
 have a5:=mb.nonneg dc
 have ap:=mb.lt dc
 have p:=C9 (B:=b64) dc m
 have al:b64^bn=b64^m*b64^m:=by rw [<- aW];congr 1;omega
 have u:b64^(2*m)=b64^m*b64^m:=by rw [<- aW];congr 1;omega
 have aq:b64^(bn-1)=b64^m*b64^(m-1):=by rw [<- aW];congr 1;omega
 have ay:an<=m+bn:=ma.len_le dc (by
  have i:b64^m*y<b64^m*b64^bn:=bL ap p
  rw [aW];omega)
 have a:=mb.high (k:=m) hb o
 rw [show bn-m=m from o] at a
 have d:=a.nonneg dc
 have aw:=a.lt dc
 have dy:b64^m*(y/b64^m)+y%b64^m=y:=aJ _ _
 have X:=aT y (b:=b64^m) o
 have a2:=aM y p
 have dx:b64^m*(x/b64^m)+x%b64^m=x:=aJ _ _
 have a4:=aT x (b:=b64^m) o
 have bb:=aM x p
 have a0:=C9 (B:=b64) dc (m-1)
 have af:9223372036854775808*b64^(m-1)<=y/b64^m:=by
  by_cases hc:9223372036854775808*b64^(m-1)<=y/b64^m
  ·exact hc
  ·have i:b64^m*(y/b64^m+1)<=b64^m*(9223372036854775808*b64^(m-1)):=aG o o
   have R:b64^m*(9223372036854775808*b64^(m-1))=9223372036854775808*(b64^m*b64^(m-1)):=gz0
   rw [aq] at htop
   rw [cQ] at i
   omega
 obtain ⟨ys,am,sy,e,aa,rfl⟩:=mb
 have mb:Mw h B bn (val b64 ys):=⟨ys,am,sy,e,aa,rfl⟩
 generalize hyv:val b64 ys=y at *
 refine Gf _ _ _ _ _ _ ?_
 unfold Ed
 have eh:B6 (aF ((bn:Nat):Int) 2)=(m:Int):=by rw [bC o,B4 o o];omega
 have ab:B6 (2*(m:Int))=((2*m:Nat):Int):=by rw [B4 o o];omega
 simp only [eh,ab,aC,bN,F7]
 rw [show bn-m=m from o]
 refine ⟨⟨o,o⟩,⟨o,o⟩,Bn (By sy (m:=m) (c:=bc) o o) (e.take m) (by rw [aP];omega) rfl o o ?_⟩
 intro yn a8 Myl
 have w:=(Da e m).2
 rw [aK o,hyv] at w
 rw [<- w] at Myl
 refine ⟨_,_,_,rfl,B3 h,O4 ma ha ?_⟩
 intro A1 n1 c1 k1 a7 M1
 refine ⟨_,_,_,rfl,?_⟩
 have G:=M1.nonneg dc
 refine ⟨fun l V=>∃ (Aq Ar:Option bS) (T cq W cr:Nat) (q r:Int),l=[.slice Aq T cq,.slice Ar W cr]/\h.le V/\Mw V Aq T q/\T<=cq/\Mw V Ar W r/\W<=cr/\q<b64^m/\x/b64^m=q*(y/b64^m)+r/\x-q*y<y,?_,?_⟩
 ·refine O4 ma ha ?_
  intro A2 n2 c2 k2 a6 M2
  refine ⟨_,_,_,rfl,F5 M2 a o ⟨_,rfl,?_⟩⟩
  have au:b64^(2*m)*(x/b64^(2*m))+x%b64^(2*m)=x:=aJ _ _
  have ae:=aT x (b:=b64^(2*m)) (by have:=C9 (B:=b64) dc (2*m);omega)
  have ad:=aM x (C9 (B:=b64) dc (2*m))
  generalize x/b64^(2*m)=X2 at *
  rw [u] at au ae ad
  refine B5 (fun S=>?_) (fun S=>?_)
  ·rw [T5] at S
   have ht:=Xd (x:=x) (top:=x/b64^m) p (by rw [cQ];omega) o S
   refine ih hN M1 a k1 o o o hm af ht ?_
   intro A3 n3 c3 A4 n4 c4 h3 s k3 k4 M3 M4
   have M:0<y/b64^m:=o
   have d1:=aJ (x/b64^m) (y/b64^m)
   have d2:=aM (x/b64^m) M
   have d0:=M3.nonneg dc
   refine ⟨_,_,_,_,_,_,rfl,_,_,_,_,_,_,_,_,rfl,s,M3,k3,M4,k4,bD M ht,by rw [aZ];omega,?_⟩
   generalize (x/b64^m)/(y/b64^m)=q at *
   generalize (x/b64^m)%(y/b64^m)=r at *
   generalize x/b64^m=top at *
   generalize y/b64^m=yh at *
   generalize y%b64^m=yl at *
   generalize x%b64^m=xl at *
   generalize b64^m=P at *
   have i:P*(r+1)<=P*yh:=aG o o
   have R:x-q*y=P*r+xl-q*yl:=by rw [<- dx,<- dy,<- d1];grind
   have t3:=aR d0 X
   rw [cQ] at i
   omega
  ·rw [T5] at S
   have ht:=Xe (x:=x) (top:=x/b64^m) (yh:=y/b64^m) (X2:=X2) p o (by rw [cQ];omega) o
   refine P7 J9 rfl ?_
   intro b aj
   refine ⟨_,_,_,rfl,?_⟩
   have l4:=Heap.le_put (.cells #[U 18446744073709551615] 230) aj
   refine Ou (v:=18446744073709551615) (SlI.new h b [18446744073709551615] 230 _) hm o ?_
   intro A5 h5 D s5
   refine ⟨_,_,_,rfl,?_⟩
   have O:=A0 l4 D
   refine Az (a.mono O) (Mag.zero (k:=.u64) (B:=b64)) o o ?_
   intro A6 n6 c6 h6 l6 k6 M6
   refine ⟨_,_,_,rfl,?_⟩
   have n:=A0 O l6
   refine E7 (M1.mono n) M6 k1 o (by rw [aZ];omega) ?_
   intro A7 n7 c7 h7 C k7 M7
   have a9:n7<=an:=M7.len_le dc (by
    have:=ma.lt dc
    have i:=aR d (aO p)
    have R:1*(x/b64^m)<=b64^m*(x/b64^m):=aD o G
    omega)
   refine ⟨_,_,_,rfl,?_⟩
   refine J4 M7 ((a.mono n).mono C) k7 o o o ?_
   intro A8 n8 c8 h8 l8 k8 M8
   have F:∀ j:Nat,val b64 (aE j 18446744073709551615)=b64^j-1:=by
    intro j
    induction j with
    | zero=>rfl
    | succ j ihj=>
     rw [List.replicate_succ,val,ihj,bG]
     show (18446744073709551615:Int)+18446744073709551616*(b64^j-1)=b64^j*18446744073709551616-1
     omega
   have M5:Mw h5 A5 m (b64^m-1):=by
    refine ⟨aE m 18446744073709551615,by simp,s5,?_,?_,F m⟩
    ·intro z hz
     have:=List.eq_of_mem_replicate hz
     subst this;decide
    ·obtain ⟨j,rfl⟩:∃ j,m=j+1:=⟨m-1,o⟩
     unfold Norm
     rw [List.replicate_succ']
     simp
   refine ⟨_,_,_,rfl,_,_,_,_,_,_,_,_,rfl,A0 n (A0 C l8),((M5.mono l6).mono C).mono l8,bF _,M8,k8,o,?_,?_⟩
   ·grind
   ·have:(b64^m-1)*y=b64^m*y-y:=gz0
    omega
 ·rintro Aq' ai a1 Ar' ak ax V ⟨Aq,Ar,T,cq,W,cr,q,r,H,lh,Q,hq,mr,hr,g,ah,ao⟩
  simp only [dH,dP,and_true] at H
  obtain ⟨⟨rfl,rfl,rfl⟩,rfl,rfl,rfl⟩:=H
  have E:=Q.nonneg dc
  have a3:=mr.nonneg dc
  have ba:ai<=m:=Q.len_le dc g
  have az:ak<=an:=mr.len_le dc (by
   have:=ma.lt dc
   have i:=aR E d
   have R:1*(x/b64^m)<=b64^m*(x/b64^m):=aD o G
   omega)
  refine E8 Q (Myl.mono lh) hq o o o ?_
  intro A3 n3 c3 h3 s k3 M3
  refine ⟨_,_,_,rfl,Y3 (ma.mono (A0 lh s)) ha o ?_⟩
  intro A4 n4 c4 k4 ar av M4
  refine ⟨_,_,_,rfl,Az (mr.mono s) M4 ar o ?_⟩
  intro A5 n5 c5 h5 D k5 M5
  have L:=A0 lh (A0 s D)
  refine ⟨_,_,_,rfl,Ol (q0:=q) (m:=m) ag (mb.mono L) hb hl2 hbm ((Q.mono s).mono D) hq (M3.mono D) ?_ M5 k5 g ?_ ao ?_⟩
  ·rw [al]
   have i:q*(y%b64^m)<=q*b64^m:=aG o E
   have R:q*b64^m<b64^m*b64^m:=bE g p
   omega
  ·generalize x/b64^m=top at *
   generalize y/b64^m=yh at *
   generalize y%b64^m=yl at *
   generalize x%b64^m=xl at *
   generalize b64^m=P at *
   rw [<- dx,<- dy,ah];grind
  ·intro A6 n6 c6 A7 n7 c7 h7 C k6 k7 M6 M7
   exact hK _ _ _ _ _ _ _ (A0 L C) k6 k7 M6 M7
end
set_option maxHeartbeats 1000000 in
def A3r:∀ N,A02 N:=by
 intro N
 induction N with
 | zero=>intro h K A B X O an d x y h1 _ _ _ _ _ _ z;omega
 | succ N ih=>
  intro h K A B X O an d x y hN n i F q hl k ad g j hK
  have aa:=n.nonneg dc
  have ag:=i.nonneg dc
  have e:0<y:=by
   have:=C9 (B:=b64) dc (d-1);omega
  refine (fnk func279) ?_
  have c:aH prog 260 #[.slice A an X,.slice B d O] h (fun r hp=>∃ (t22aA:Option bS) (t22an:Nat) (t22ac:Nat) (t22bA:Option bS) (t22bn:Nat) (t22bc:Nat),r= .tuple #[.slice t22aA t22an t22ac,.slice t22bA t22bn t22bc]/\K (.tuple #[.slice t22aA t22an t22ac,.slice t22bA t22bn t22bc]) hp):=by
   refine V3 n i F q o o o ?_
   intro A1 m1 c1 A2 m2 c2 h' l G R M1 M2
   exact ⟨_,_,_,_,_,_,rfl,hK _ _ _ _ _ _ _ l G R M1 M2⟩
  refine B5 (fun h1=>c) (fun h1=>?_)
  refine T6 (fun z=>c) (fun z=>?_)
  rw [cT o] at z
  obtain ⟨m,hbm⟩:∃ m,d=2*m:=⟨d/2,o⟩
  have eh:B6 (aF ((d:Nat):Int) 2)=(m:Int):=by rw [bC o,B4 o o];omega
  simp only [eh]
  have W:=C9 (B:=b64) dc m
  have C:b64^d=b64^m*b64^m:=by rw [<- aW];congr 1;omega
  have dx:b64^m*(x/b64^m)+x%b64^m=x:=aJ _ _
  have af:=aT x (b:=b64^m) o
  have aj:=aM x W
  rw [C] at j
  refine O4 n F ?_
  intro A1 n1 c1 G ah M1
  refine ⟨_,_,_,rfl,?_⟩
  have M:x/b64^m<b64^m*y:=by
   by_cases hc:x/b64^m<b64^m*y
   ·exact hc
   ·have E:b64^m*(b64^m*y)<=b64^m*(x/b64^m):=aG o o
    rw [cO] at j
    omega
  refine Gy ih o o hbm M1 i G q o k g M ?_
  intro A2 n2 c2 A3 n3 c3 h3 s R k3 M2 M3
  refine ⟨_,_,_,_,_,_,rfl,Y3 (n.mono s) F o ?_⟩
  intro A4 n4 c4 k4 L T M4
  have d1:=aJ (x/b64^m) y
  have d2:=aM (x/b64^m) e
  have d3:=aT (x/b64^m) (b:=y) o
  have H:x/b64^m/y<b64^m:=bD e M
  have ab:n3<=d:=M3.len_le dc (by have:=i.lt dc;omega)
  have ai:n2<=m:=M2.len_le dc H
  refine ⟨_,_,_,rfl,Az M3 M4 L o ?_⟩
  intro A5 n5 c5 h5 u k5 M5
  refine ⟨_,_,_,rfl,?_⟩
  have S:(x/b64^m)%y*b64^m+x%b64^m<b64^m*y:=by
   have E:b64^m*((x/b64^m)%y+1)<=b64^m*y:=aG o o
   rw [cQ,aZ] at E
   omega
  have ae:n5<=d+m:=M5.len_le dc (by
   have E:b64^m*y<b64^m*b64^d:=bL (i.lt dc) W
   rw [Nat.add_comm,aW];omega)
  refine Gy ih o o hbm M5 (i.mono (A0 s u)) k5 q o k g S ?_
  intro A6 n6 c6 A7 n7 c7 h7 Q k6 k7 M6 M7
  have D:n6<=m:=M6.len_le dc (bD e S)
  refine ⟨_,_,_,_,_,_,rfl,Az ((M2.mono u).mono Q) M6 D o ?_⟩
  intro A8 n8 c8 h8 V k8 M8
  refine ⟨_,_,_,rfl,?_⟩
  have e1:=aJ ((x/b64^m)%y*b64^m+x%b64^m) y
  have e2:=aM ((x/b64^m)%y*b64^m+x%b64^m) e
  have e3:=aT ((x/b64^m)%y*b64^m+x%b64^m) (b:=y) o
  have M7':=M7.mono V
  have w:=A0 s (A0 u (A0 Q V))
  generalize ((x/b64^m)%y*b64^m+x%b64^m)/y=q2 at *
  obtain ⟨f1,f2⟩:=Kw (x:=x) (a:=((x/b64^m)%y*b64^m+x%b64^m)%y) (b:=x/b64^m/y*b64^m+q2) (p:=y) (by
   generalize ((x/b64^m)%y*b64^m+x%b64^m)%y=r2 at *
   generalize x/b64^m/y=q1 at *
   generalize x/b64^m%y=r1 at *
   generalize x/b64^m=top at *
   generalize x%b64^m=xl at *
   generalize b64^m=P at *
   grind) e3 e2
  refine hK _ _ _ _ _ _ _ w k8 k7 ?_ ?_
  ·rw [f1];exact M8
  ·rw [f2];exact M7'
def Jf{ys:List Int}{k t s:Nat}(dy:Dig b64 ys)(hk:ys.length=k+1)(ht:ys.getD k 0=(t:Int))(ht0:t≠0)(hs:s=64-H8 t):s<64/\val b64 ys*2^s<b64^(k+1)/\9223372036854775808*b64^k<=val b64 ys*2^s:=by
 have w:=I4 dy k
 obtain ⟨d,a⟩:=Q9 (B:=b64) dc dy (m:=k) hk
 rw [ht] at w d a
 obtain ⟨q,p⟩:=S3 ht0
 have n:H8 t<=64:=Y7 (k:=64) o
 have r:1<=H8 t:=gz0
 have g:s<64:=o
 have b:0<(2:Int)^s:=bJ dc
 have i:=O6 (s:=s) o
 have l:(t:Int)+1<=2^(64-s):=by
  grind
 have j:(2:Int)^(63-s)<=t:=by
  grind
 have e:(2:Int)^s*2^(63-s)=9223372036854775808:=by
  rw [<- aW,show s+(63-s)=63 from o];decide
 have c:=C9 (B:=b64) dc k
 refine ⟨g,?_,?_⟩
 ·have u:val b64 ys*2^s<((t:Int)+1)*b64^k*2^s:=bE d b
  have y:((t:Int)+1)*2^s*b64^k<=18446744073709551616*b64^k:=by
   apply aD _ (aO c)
   rw [<- i,aZ (2^s)]
   exact aD l (aO b)
  grind
 ·have x:(t:Int)*b64^k*2^s<=val b64 ys*2^s:=aD a (aO b)
  have u:9223372036854775808*b64^k<=(t:Int)*2^s*b64^k:=by
   apply aD _ (aO c)
   rw [<- e,aZ (t:Int)]
   exact aG j o
  grind
section
variable {h g:bA} {K:VP} {A B:Option bS} {ac bc:Nat}
set_option maxHeartbeats 1000000 in
def Pp{D V a b:Int}{S sh dn dc vc bn bq:Nat}{pieces t46:Int}{DA VA:Option bS}(hS:B6 ((B6 (aF (B6 ((B6 (((bn:Nat):Int)+pieces))-(1:Int))) pieces))*pieces)=(S:Int))
 (hsh:B9 (B6 ((B6 ((64:Int)*(B6 ((S:Int)-((bn:Nat):Int)))))+t46))=(sh:Int)) (hS0:0<S) (hS2:S<=9300000000000) (hsh2:sh<=100000000000000) (hb:h bq=none) (hD:Mw h DA dn D) (hdc:dn<=dc) (hdn:0<dn) (hdl:dn<=9400000000000) (hV:Mw h VA S V) (hvc:S<=vc) (hVt:9223372036854775808*b64^(S-1)<=V)
 (hDa:D=a*2^sh) (hVb:V=b*2^sh)
 (hK:∀ A1 m1 c1 A2 m2 c2 h',h.le h'->m1<=c1->m2<=c2->Mw h' A1 m1 (a/b)->Mw h' A2 m2 (a%b)->K (.tuple #[.slice A1 m1 c1,.slice A2 m2 c2]) h'):
 Q4 prog bn K pieces t46 VA S vc DA dn dc (some ⟨bq,0,none⟩) (dn+S) (dn+S) (blk .u64 230 h bq (aE (dn+S) 0)):=by
 have O:=hD.nonneg (by decide)
 have aj:=hD.lt (by decide)
 have N:=hV.lt (by decide)
 have s:0<V:=by have:=C9 (B:=b64) (by decide) (S-1);omega
 have hp:0<(2:Int)^sh:=bJ (by decide)
 have hQ:=C9 (B:=b64) (by decide) S
 unfold Q4
 simp only [hS,hsh]
 obtain ⟨nb,hnb⟩:∃ nb,nb=(dn-1)/S:=⟨_,rfl⟩
 have al:nb*S<=dn-1:=by rw [hnb];exact Nat.div_mul_le_self _ _
 have ak:dn-1<nb*S+S:=by
  have X:=dF (dn-1) S
  have h2:=Nat.mod_lt (dn-1) hS0
  rw [<- hnb,eI] at X
  omega
 have e1:B6 (B6 (aF (B6 ((dn:Int)-1)) (S:Int))*(S:Int))=((nb+1:Nat):Int)*S-S:=by
  rw [B4 (n:=(dn:Int)-1) o o,show (dn:Int)-1=((dn-1:Nat):Int) from o,<- Int.ofNat_tdiv,<- hnb]
  have:nb<=dn-1:=by rw [hnb];exact Nat.div_le_self _ _
  have h3:(nb:Int)*(S:Int)=((nb*S:Nat):Int):=by simp
  rw [B4 (n:=(nb:Int)) o o,h3,B4 o o,Int.natCast_add,Int.add_mul,h3]
  omega
 refine ⟨fun l hp=>∃ (j n c:Nat) (A:Option bS) (d:List Int) (r:Int) (g:bA),l=[.slice A n c,I ((j:Int)*S-S)]/\h.le g/\j*S+d.length=dn+S/\Dig b64 d/\Win .u64 hp g bq 230 (some ⟨bq,0,none⟩) [] (aE (j*S) 0++d) []/\Mw g A n r/\n<=c/\r=(D/b64^(j*S))%V/\val b64 d=(D/b64^(j*S))/V,fun l _=>(iAt l 1+S).toNat,⟨nb+1,0,0,none,aE (dn-1+1-nb*S) 0,0,h,by rw [e1],B3 h,?_,F3 (by decide) _,?_,Mag.zero,bF _,?_,?_⟩,?_⟩
 ·rw [bO,cZ,cY];omega
 ·rw [cN,show (nb+1)*S+(dn-1+1-nb*S)=dn+S by rw [cZ,cY];omega]
  exact Win.blk .u64 230 hb _
 ·have:=C7 (B:=b64) (by decide) (show dn<=(nb+1)*S by rw [cZ,cY];omega)
  rw [bH O o,eD]
 ·have:=C7 (B:=b64) (by decide) (show dn<=(nb+1)*S by rw [cZ,cY];omega)
  rw [bH O o,Int.zero_ediv,R7]
 rintro A1 n1 c1 st a0 ⟨j,n,c,A',d,r,g,R,lg,y,M,w,Mr,av,C,k⟩
 simp only [dH,dP,Value.int.injEq,and_true,true_and] at R
 obtain ⟨⟨rfl,rfl,rfl⟩,rfl⟩:=R
 refine B5 (fun X=>?_) (fun X=>?_)
 ·obtain ⟨i,rfl⟩:∃ i,j=i+1:=⟨j-1,by
   rcases j with _|j
   ·simp at X;omega
   ·rfl⟩
  obtain ⟨e,he⟩:∃ e,e=i*S:=⟨_,rfl⟩
  have F:(i+1)*S=e+S:=by rw [he,cZ,cY]
  have ae:((i+1:Nat):Int)*(S:Int)-(S:Int)=(e:Int):=by rw [<- cI,F];omega
  rw [F] at y w C k
  rw [ae]
  have a1:=C9 (B:=b64) (by decide) e
  refine w.call (O4 (hD.mono lg) hdc ?_)
  intro A2 n2 c2 k2 az M2 h2 w2
  refine ⟨_,_,_,rfl,w2.call (Y3 M2 k2 o ?_)⟩
  intro A3 n3 c3 k3 ag ai M3 h3 w3
  have au:=Mr.nonneg (by decide)
  have am:r<V:=by rw [C];exact aM _ s
  have an:n1<=S:=Mr.len_le (by decide) o
  refine ⟨_,_,_,rfl,w3.call (Az Mr M3 ag o ?_)⟩
  intro A4 n4 c4 g4 l4 k4 M4 h4 w4
  have ab:D/b64^(e+S)=D/b64^e/b64^S:=by rw [aW,dC o]
  rw [ab] at C k
  have dm:=aJ (D/b64^e) (b64^S)
  have ar:=aT (D/b64^e) (b:=b64^S) o
  have ax:=aM (D/b64^e) hQ
  generalize hD1:D/b64^e=D1 at *
  have u:r*b64^S+D1%b64^S<b64^S*V:=by
   have t1:b64^S*(r+1)<=b64^S*V:=aG o o
   rw [cQ,aZ] at t1
   omega
  have ay:n4<=S+S:=M4.len_le (by decide) (by
   have t1:b64^S*V<b64^S*b64^S:=bL N hQ
   rw [aW];omega)
  have E:=A0 lg l4
  refine ⟨_,_,_,rfl,w4.call (A3r S (bF _) M4 (hV.mono E) k4 hvc o hS2 hS0 hVt u ?_)⟩
  intro A5 n5 c5 A6 n6 c6 g6 l6 k5 k6 M5 M6 h6 w6
  have aq:n5<=S:=M5.len_le (by decide) (bD s u)
  refine ⟨_,_,_,_,_,_,rfl,⟨o,o⟩,?_⟩
  rw [aC]
  have ac:aE (e+S) (0:Int)++d=aE e 0++(aE S 0++d):=by rw [<- cC,cN]
  rw [ac] at w6
  have ao:(aE e (0:Int)++(aE S 0++d)).length=dn+S:=by simp only [bB,bO];omega
  have w7:=w6.sub (l:=e) (m:=dn+S) (c:=dn+S) o o o
  have e7:((aE e (0:Int)++(aE S 0++d)).drop e).take (dn+S-e)=aE S 0++d:=by
   rw [dZ (by simp),aX (by simp only [bB,bO];omega)]
  rw [e7] at w7
  obtain ⟨z,G,ad,ah,aw,L⟩:=M5
  refine Bf J9 w7 (by simp only [bB,bO];omega) (ad.mono w6.le) G (by simp only [bB,bO];omega) ?_
  intro h8 w8
  rw [cP (by simp;omega),bI,<- cC z] at w8
  have q:(z++aE (S-z.length) (0:Int)).length=S:=by simp;omega
  have w9:=w6.whole (l:=e) (m:=dn+S) o o (by rw [bB,q];omega) w8
  rw [cR (by simp),aY (show (aE e (0:Int)++(aE S 0++d)).length<=dn+S from o),bV] at w9
  have e8:B6 ((e:Int)-(S:Int))=((i:Nat):Int)*S-S:=by
   rw [B4 o o,he,cI]
  have ap:=aJ (r*b64^S+D1%b64^S) V
  have H:=aT (r*b64^S+D1%b64^S) (b:=V) o
  have T:=aM (r*b64^S+D1%b64^S) s
  have aa:=aJ (D1/b64^S) V
  rw [<- C,<- k] at aa
  obtain ⟨f1,f2⟩:=Kw (x:=D1) (a:=(r*b64^S+D1%b64^S)%V) (b:=val b64 z+b64^S*val b64 d) (p:=V) (by
   rw [L]
   generalize (r*b64^S+D1%b64^S)%V=r2 at *
   generalize hq2:(r*b64^S+D1%b64^S)/V=q2 at *
   generalize D1%b64^S=bl at *
   generalize D1/b64^S=D2 at *
   generalize b64^S=Q at *
   generalize val b64 d=W at *
   grind) H T
  refine ⟨_,rfl,?_⟩
  rw [e8]
  refine ⟨⟨i,_,_,_,(z++aE (S-z.length) 0)++d,_,g6,rfl,A0 E l6,?_,?_,?_,M6,k6,?_,?_⟩,?_⟩
  ·rw [bB,q];omega
  ·exact (ah.append (F3 (by decide) _)).append M
  ·rw [<- he];exact w9
  ·rw [<- he,hD1,f2]
  ·rw [<- he,hD1,f1,G2,q,S7]
  ·simp only [iAt,aQ,aI]
   rw [<- cI,<- he]
   omega
 ·obtain rfl:j=0:=by
   rcases j with _|j
   ·rfl
   ·rw [<- cI,cZ,cY] at X
    omega
  rw [eG,List.replicate_zero,cH] at w
  rw [eG,eO,Int.ediv_one] at C k
  rw [eG,Nat.zero_add] at y
  have af:0<b:=by
   by_cases hc:0<b
   ·exact hc
   ·have:=aD (show b<=0 from o) (aO hp);omega
  obtain ⟨f1,f2⟩:=Kw (x:=D) (a:=(a%b)*2^sh) (b:=a/b) (p:=V) (by
   have:=aJ a b
   rw [hDa,hVb]
   conv=>rhs;rw [<- this]
   grind) (aR (aT _ o) o) (by rw [hVb];exact bE (aM _ af) hp)
  refine Bn w.sl M y.symm k o o ?_
  intro m2 k2 M2
  refine ⟨_,_,_,rfl,?_⟩
  refine Y9 (Mr.mono w.le) (by have:=Mr.len_le (j:=S) (by decide) (by have:=aM D s;omega);omega) o ?_
  intro A3 n3 c3 h3 l3 k3 M3
  rw [C,f2,dM _ o] at M3
  rw [f1] at M2
  exact ⟨_,_,_,rfl,hK _ _ _ _ _ _ _ (A0 lg (A0 w.le l3)) k2 k3 (M2.mono l3) M3⟩
set_option maxHeartbeats 1000000 in
def Fa{x y:Int}{an bn:Nat}(ma:Mw h A an x)(mb:Mw h B bn y)(ha:an<=ac)(hbc:bn<=bc)(hl:an<=9000000000000)(hl2:bn<=9000000000000)(ha0:0<an)(hb0:0<bn)
 (hK:∀ A1 m1 c1 A2 m2 c2 h',h.le h'->m1<=c1->m2<=c2->Mw h' A1 m1 (x/y)->Mw h' A2 m2 (x%y)->K (.tuple #[.slice A1 m1 c1,.slice A2 m2 c2]) h'):aH prog 259 #[.slice A an ac,.slice B bn bc] h K:=by
 have aj:=ma.nonneg dc
 have af:=ma.len_zero dc
 have m:=ma.lt dc
 refine Gh _ _ _ _ _ _ ?_
 unfold Ef Bj
 refine ⟨fun l hp=>hp=h/\∃ p:Nat,l=[I p]/\0<p/\p<=bn/\(p=1\/39*p<=bn),fun l _=>bn-(iAt l 0).toNat,⟨rfl,1,rfl,o,o,.inl rfl⟩,?_⟩
 rintro C hp ⟨rfl,p,X,r,ad,aa⟩
 obtain rfl:=sI1 X
 have e1:B6 (aF (B6 (B6 ((bn:Int)+(p:Int))-1)) (p:Int))=(((bn+p-1)/p:Nat):Int):=by
  rw [B4 (n:=(bn:Int)+p) o o,B4 (n:=(bn:Int)+p-1) o o,show (bn:Int)+p-1=((bn+p-1:Nat):Int) from o,<- Int.ofNat_tdiv]
  have:(bn+p-1)/p<=bn+p-1:=Nat.div_le_self _ _
  generalize (bn+p-1)/p=q at *
  rw [B4 o o]
 refine B5 (fun d=>o) (fun _=>?_)
 obtain ⟨S,hS⟩:∃ S,S=(bn+p-1)/p*p:=⟨_,rfl⟩
 have ag:bn<=S/\S<=bn+p-1:=by
  have d:=dF (bn+p-1) p
  have E:=Nat.mod_lt (bn+p-1) r
  rw [eI,<- hS] at d
  omega
 have e2:B6 ((B6 (aF (B6 (B6 ((bn:Int)+(p:Int))-1)) (p:Int)))*(p:Int))=(S:Int):=by
  rw [e1,<- cI,<- hS,B4 o o]
 refine B5 (fun d=>?_) (fun d=>?_)
 ·rw [e1] at d
  have E:80<=(bn+p-1)/p:=o
  rw [Nat.le_div_iff_mul_le r] at E
  have Q:B6 ((p:Int)*2)=((p*2:Nat):Int):=by rw [B4 o o];omega
  rw [Q]
  exact ⟨⟨rfl,_,rfl,o,o,.inr o⟩,by simp only [iAt,aI];omega⟩
 ·refine B5 (fun d=>o) (fun _=>?_)
  obtain ⟨k,hk⟩:∃ k,bn=k+1:=⟨bn-1,o⟩
  have T:=mb
  obtain ⟨a,N,sy,dy,ny,rfl⟩:=mb
  have c:a.length=k+1:=o
  have gt:=I4 dy k
  have R:=Lu c ny
  have Q:B6 ((bn:Int)-1)=(k:Int):=by rw [B4 o o];omega
  rw [Q]
  subst N
  refine sy.load rfl o o ?_
  rw [aC]
  obtain ⟨t,ht⟩:∃ t:Nat,a.getD k 0=t:=⟨(a.getD k 0).toNat,o⟩
  rw [ht] at gt R ⊢
  refine J2 o ⟨_,rfl,?_⟩
  obtain ⟨s,hs⟩:∃ s,s=64-H8 t:=⟨_,rfl⟩
  rw [<- hs]
  obtain ⟨ab,O,M⟩:=Jf dy c ht o hs
  simp only [e2]
  obtain ⟨sh,hsh⟩:∃ sh,sh=64*(S-a.length)+s:=⟨_,rfl⟩
  have e4:B9 (B6 (B6 (64*B6 ((S:Int)-(a.length:Int)))+(s:Int)))=(sh:Int):=by
   rw [B4 (n:=(S:Int)-(a.length:Int)) o o,B4 (n:=64*((S:Int)-(a.length:Int))) o o,B4 o o,B8 o o]
   omega
  simp only [e4]
  have g:(2:Int)^sh=2^s*b64^(S-a.length):=by rw [hsh,aW,Aw,aZ]
  have i:=C9 (B:=b64) dc (S-a.length)
  have ai:0<(2:Int)^s:=bJ dc
  have j:0<(2:Int)^sh:=bJ dc
  have ae:val b64 a*2^sh=val b64 a*2^s*b64^(S-a.length):=by rw [g,cO]
  have F:val b64 a*2^sh<b64^S:=by
   have z:val b64 a*2^s*b64^(S-a.length)<b64^(k+1)*b64^(S-a.length):=bE O i
   rw [<- aW,show k+1+(S-a.length)=S from o] at z
   omega
  have W:9223372036854775808*b64^(S-1)<=val b64 a*2^sh:=by
   have z:9223372036854775808*b64^k*b64^(S-a.length)<=val b64 a*2^s*b64^(S-a.length):=aD M (aO i)
   rw [cO,<- aW,show k+(S-a.length)=S-1 from o] at z
   omega
  refine L5 T hbc o o ?_
  intro A1 b c1 d l1 k1 M1
  refine ⟨_,_,_,rfl,?_⟩
  have H:b=S:=by
   have q1:=M1.len_le dc F
   have q2:=M1.lt dc
   by_cases hc:b=S
   ·exact hc
   ·have:=C7 (B:=b64) dc (show b<=S-1 from o)
    have:=C9 (B:=b64) dc (S-1)
    omega
  subst H
  refine L5 (ma.mono l1) ha o o ?_
  intro A2 w c2 E l2 k2 M2
  refine ⟨_,_,_,rfl,?_⟩
  have ah:w<=an+(1+(b-a.length)):=M2.len_le dc (by
   have z:x*2^sh<b64^an*2^sh:=bE m j
   have t2:(2:Int)^sh<=b64^(1+(b-a.length)):=by
    rw [g,aW]
    apply aD _ (aO i)
    have:=C7 (B:=2) dc (show s<=64 from o)
    have e:(2:Int)^64=18446744073709551616:=dc
    show (2:Int)^s<=b64^1
    rw [bG,eO]
    show (2:Int)^s<=1*18446744073709551616
    omega
   have t3:b64^an*2^sh<=b64^an*b64^(1+(b-a.length)):=aG t2 (aO (C9 dc an))
   rw [aW b64 an]
   omega)
  have u:0<w:=by
   rcases Nat.eq_zero_or_pos w with G|G
   ·have:=(M2.len_zero dc).2 G
    rcases Int.mul_eq_zero.1 this with h3|h3<;>omega
   ·exact G
  have e5:B6 ((w:Int)+(b:Int))=((w+b:Nat):Int):=by rw [B4 o o];omega
  rw [e5]
  refine H0 J9 o o o ?_
  intro bq L
  rw [aC]
  refine ⟨_,_,_,rfl,?_⟩
  refine B5 (fun d=>o) (fun _=>?_)
  refine Pp (D:=x*2^sh) (V:=val b64 a*2^sh) (sh:=sh) (S:=b) e2 e4 o o o L M2 k2 u o (M1.mono l2) k1 W rfl rfl ?_
  intro A3 n3 c3 A4 n4 c4 h4 l4 k3 k4 M3 M4
  exact hK _ _ _ _ _ _ _ (A0 l1 (A0 l2 l4)) k3 k4 M3 M4
def Q0{x y:Int}{an bn:Nat}(ma:Mw h A an x)(mb:Mw h B bn y)(ha:an<=ac)(hbc:bn<=bc)(hy:y≠0)(hl:an<=9000000000000)(hl2:bn<=9000000000000)
 (hK:∀ A1 m1 c1 A2 m2 c2 h',h.le h'->m1<=c1->m2<=c2->Mw h' A1 m1 (x/y)->Mw h' A2 m2 (x%y)->K (.tuple #[.slice A1 m1 c1,.slice A2 m2 c2]) h'):aH prog 231 #[.slice A an ac,.slice B bn bc] h K:=by
 refine (fnk func231) ?_
 have a:aH prog 260 #[.slice A an ac,.slice B bn bc] h (fun r c=>∃ (t22aA:Option bS) (t22an:Nat) (t22ac:Nat) (t22bA:Option bS) (t22bn:Nat) (t22bc:Nat),r= .tuple #[.slice t22aA t22an t22ac,.slice t22bA t22bn t22bc]/\K (.tuple #[.slice t22aA t22an t22ac,.slice t22bA t22bn t22bc]) c):=by
  refine V3 ma mb ha hbc hy o o ?_
  grind
 refine B5 (fun d=>B5 (fun b=>?_) (fun _=>a)) (fun _=>a)
 rw [B4 o o] at b
 refine Fa ma mb ha hbc hl hl2 o o ?_
 grind
end
def TZ(x k:Nat):Prop:=∃ m,x=2^k*(2*m+1)
def TZ.ex:∀ {x:Nat},x≠0->∃ k,TZ x k:=by
 intro x
 induction x using Nat.strongRecOn with
 | _ x ih=>
  intro h
  rcases Nat.mod_two_eq_zero_or_one x with b|b
  ·obtain ⟨k,m,a⟩:=ih (x/2) o o
   refine ⟨k+1,m,?_⟩
   rw [Nat.pow_succ,eI (2^k),dN,<- a];omega
  ·exact ⟨0,x/2,o⟩
def TZ.lt{x k n:Nat}(h:TZ x k)(hx:x<2^n):k<n:=by
 obtain ⟨m,rfl⟩:=h
 have b:2^k*1<=2^k*(2*m+1):=Nat.mul_le_mul_left _ o
 exact (Nat.pow_lt_pow_iff_right (a:=2) dc).1 o
def Uo{a u v:Nat}:(2^a*u) ||| (2^a*v)=2^a*(u ||| v):=by
 apply Nat.eq_of_testBit_eq
 grind
def Zp{u v:Nat}(h:u%2=1\/v%2=1):(u ||| v)%2=1:=by simp_all
def TZ.or'{x y a b:Nat}(hx:TZ x a)(hy:TZ y b)(hab:a<=b):TZ (x ||| y) a/\TZ (y ||| x) a:=by
 obtain ⟨m,rfl⟩:=hx
 obtain ⟨n,rfl⟩:=hy
 obtain ⟨d,rfl⟩:∃ d,b=a+d:=⟨b-a,o⟩
 rw [Nat.pow_add,dN,Uo,Uo]
 have c:=Zp (u:=2*m+1) (v:=2^d*(2*n+1)) (.inl o)
 have e:=Zp (u:=2^d*(2*n+1)) (v:=2*m+1) (.inr o)
 exact ⟨⟨_/2,by rw [<- dF (_ ||| _) 2,c]⟩,⟨_/2,by rw [<- dF (_ ||| _) 2,e]⟩⟩
def TZ.or{x y a b:Nat}(hx:TZ x a)(hy:TZ y b):TZ (x ||| y) (min a b):=by
 by_cases h:a<=b
 ·rw [aK h];exact (hx.or' hy h).1
 ·rw [dU o];exact (hy.or' hx o).2
def TZ.bit{x k:Nat}(h:TZ x k)(hx:x<2^64):x &&& (2^64-x)=2^k:=by
 obtain ⟨m,rfl⟩:=h
 have g:0<2^k:=cX dc
 have a:2^k*(2*m+1)=2^k*(2*m)+(2^k-1)+1:=gz0
 apply Nat.eq_of_testBit_eq
 intro i
 rw [Nat.testBit_and]
 have e:(2^64-2^k*(2*m+1)).testBit i=(decide (i<64) && !(2^k*(2*m)+(2^k-1)).testBit i):=by
  rw [a];exact Nat.testBit_two_pow_sub_succ o i
 rw [e,Nat.testBit_two_pow_mul_add _ o,Nat.testBit_two_pow_mul,Nat.testBit_two_pow]
 by_cases j:i<k
 ·grind
 ·by_cases b:i=k
  ·subst b
   have c:i<64:=TZ.lt ⟨m,rfl⟩ hx
   grind
  ·obtain ⟨d,hd⟩:∃ d,i-k=d+1:=⟨i-k-1,o⟩
   grind
def Kb{o k:Nat}(h:o%2=1):Nat.Coprime (2^k) o:=Nat.Coprime.pow_left k (by unfold Nat.Coprime;rw [Nat.gcd_rec,h];rfl)
def A1c{x y a b m:Nat}(hx:x=2^a*(2*m+1))(hy:TZ y b):cS x y=2^(min a b)*cS (2*m+1) y:=by
 obtain ⟨n,rfl⟩:=hy
 subst hx
 have c:cS (2*m+1) (2^b*(2*n+1))=cS (2*m+1) (2*n+1):=cD (2*n+1) (Kb o)
 rw [c]
 by_cases h:a<=b
 ·obtain ⟨d,rfl⟩:∃ d,b=a+d:=⟨b-a,o⟩
  rw [aK h,Nat.pow_add,dN,Nat.gcd_mul_left,cD _ (Kb o)]
 ·obtain ⟨d,rfl⟩:∃ d,a=b+d:=⟨a-b,o⟩
  rw [dU o,Nat.pow_add,dN,Nat.gcd_mul_left,Nat.Coprime.gcd_mul_left_cancel _ (Kb o)]
def Ok(k:Nat):Nat:=(2^k*285870213051353865%18446744073709551616)/2^58
def Gtz(h:bA):Prop:=∀ k,k<64->h.cell? (dL ⟨1,0,none⟩ (Ok k*1))=some (Y k)
def Gtz.mono{h h':bA}(g:Gtz h)(l:h.le h'):Gtz h':=fun k a=>J5 l (g k a)
section
variable {h g:bA} {K:VP} {A B:Option bS} {ac bc:Nat}
def Ck{x k:Nat}(gl:Gtz h)(tz:TZ x k)(hx:x<18446744073709551616)(hK:K (I k) h):aH prog 263 #[U x] h K:=by
 have a:=tz.lt (n:=64) hx
 have d:x≠0:=by
  obtain ⟨m,rfl⟩:=tz
  grind
 refine Ct _ ?_
 refine D6 (fun e=>o) (fun _=>?_)
 have b:B9 (0-(x:Int))=((2^64-x:Nat):Int):=by
  rw [E4];omega
 have g:Lj .u64 (x:Int) ((2^64-x:Nat):Int)=((2^k:Nat):Int):=by
  rw [Wf o o,aC,aC,tz.bit hx]
 have c:aU (B9 (((2^k:Nat):Int)*285870213051353865)) (2^(min ((58:Int)).toNat 64))=((Ok k:Nat):Int):=by
  show aU _ (2^(min 58 64))=_
  rw [Wu dc,E4]
  rfl
 rw [b,g,c,aC]
 have i:Ok k<64:=by
  unfold Ok
  omega
 refine ⟨⟨o,o⟩,_,gl k a,?_⟩
 rw [B4 o o]
 exact hK
def Nk{x y:Nat}(gl:Gtz h)(hx:x<18446744073709551616)(hy:y<18446744073709551616)(hK:K (U (cS x y:Nat)) h):aH prog 234 #[U x,U y] h K:=by
 refine (fnk func234 [(5,[0,1],[],[U 0,U 0])]) ?_
 refine D6 (fun e=>?_) (fun e=>?_)
 ·obtain rfl:x=0:=o
  rw [Po o o]
  grind
 refine D6 (fun F=>?_) (fun F=>?_)
 ·obtain rfl:y=0:=o
  rw [Po o o]
  grind
 obtain ⟨a,k⟩:=TZ.ex (x:=x) o
 obtain ⟨b,A⟩:=TZ.ex (x:=y) o
 have T:=k.lt (n:=64) hx
 rw [Po o o,aC,aC]
 have q:x ||| y<18446744073709551616:=Nat.or_lt_two_pow (n:=64) hx hy
 refine Ck gl (k.or A) q ⟨_,rfl,?_⟩
 refine Ck gl k hx ⟨_,rfl,?_⟩
 refine B5 (fun j=>o) (fun _=>?_)
 obtain ⟨m,s⟩:=k
 have E:=A1c s A
 have O:aU (x:Int) (2^(min ((a:Int)).toNat 64))=((2*m+1:Nat):Int):=by
  rw [aC,Wu o,show ((2:Int)^a)=((2^a:Nat):Int) by simp,<- Int.natCast_ediv,s,eE _ (cX dc)]
 rw [O]
 have z:2*m+1<=x:=by
  rw [s];exact eJ _ (cX dc)
 refine ⟨fun l L=>L=h/\∃ u v:Nat,l=[U u,U v]/\u%2=1/\u<18446744073709551616/\v<18446744073709551616/\cS u v=cS (2*m+1) y,fun l _=>(iAt l 0+iAt l 1).toNat,⟨rfl,2*m+1,y,rfl,o,o,hy,rfl⟩,?_⟩
 rintro V S H ⟨rfl,u,v,M,N,D,g,d⟩
 obtain ⟨rfl,rfl⟩:=M
 refine T6 (fun j=>?_) (fun j=>?_)
 ·obtain ⟨c,p⟩:=TZ.ex (x:=v) o
  have W:=p.lt (n:=64) g
  refine Ck gl p g ⟨_,rfl,?_⟩
  refine B5 (fun j=>o) (fun _=>?_)
  obtain ⟨n,r⟩:=p
  have G:aU (v:Int) (2^(min ((c:Int)).toNat 64))=((2*n+1:Nat):Int):=by
   rw [aC,Wu o,show ((2:Int)^c)=((2^c:Nat):Int) by simp,<- Int.natCast_ediv,r,eE _ (cX dc)]
  have B:2*n+1<=v:=by
   rw [r];exact eJ _ (cX dc)
  have i:cS u (2*n+1)=cS u v:=by
   rw [r,cD _ (Kb N)]
  rw [G]
  refine B5 (fun C=>?_) (fun C=>?_)
  ·have w:B9 ((u:Int)-((2*n+1:Nat):Int))=((u-(2*n+1):Nat):Int):=by rw [B8 o o];omega
   rw [w]
   refine ⟨⟨rfl,_,_,rfl,o,o,o,?_⟩,?_⟩
   ·rw [eK o,Nat.gcd_comm,i,d]
   ·simp only [iAt,aI,aQ];omega
  ·have w:B9 (((2*n+1:Nat):Int)-(u:Int))=((2*n+1-u:Nat):Int):=by rw [B8 o o];omega
   rw [w]
   refine ⟨⟨rfl,_,_,rfl,o,o,o,?_⟩,?_⟩
   ·rw [eK o,i,d]
   ·simp only [iAt,aI,aQ];omega
 ·refine B5 (fun j=>o) (fun _=>?_)
  obtain rfl:v=0:=o
  rw [aC,aK (show min a b<=64 from o)]
  have Q:(u:Int)*2^(min a b)=((cS x y:Nat):Int):=by
   rw [E,<- d,cI,aZ];simp
  have R:cS x y<=x:=Nat.le_of_dvd o (Nat.gcd_dvd_left x y)
  rw [Q,B8 o o]
  exact hK
end
def Tk{xs:List Int}(d:Dig b64 xs){k s:Nat}(hl:xs.length<=k+2)(hs:s<=64):val b64 xs/(b64^k*2^(64-s))=xs.getD (k+1) 0*2^s+xs.getD k 0/2^(64-s):=by
 have i:=C0 b64 xs (k+1)
 have l:=C0 b64 xs k
 rw [aX (show xs.length<=k+1+1 from o)] at i
 have c:=C9 (B:=b64) dc k
 have g:0<(2:Int)^(64-s):=bJ dc
 have b:=O6 (s:=s) hs
 have j:=C2 dc (d.take k)
 have m:=H1 dc (d.take k)
 have n:=C7 (B:=b64) dc (show (xs.take k).length<=k from gz0)
 rw [<- dC (aO c)]
 have e:val b64 xs/b64^k=xs.getD k 0+18446744073709551616*xs.getD (k+1) 0:=by
  refine (Kw (a:=val b64 (xs.take k)) ?_ j o).1
  grind
 rw [e,<- b,aZ (2^s),cO,dK _ _ o,aZ (2^s)]
 omega
section
variable {h g:bA} {K:VP} {A B:Option bS} {ac bc:Nat}
def A1p(a b u0 u1 v0 v1:Int)(odd:Bool):Prop:=(0<=u0/\u0<18446744073709551616)/\(0<=u1/\u1<18446744073709551616)/\(0<=v0/\v0<18446744073709551616)/\(0<=v1/\v1<18446744073709551616)/\(v0≠0->Leh a b u0 v0 u1 v1 (Ev a b u0 v0 odd) (Eu a b u1 v1 odd))
def Xl{a b F S W t20 t26 t33:Int}(hF:F=bor .u64 (B9 (t26*2^(min (B9 t20).toNat 64))) (aU t33 (2^(min (B9 ((64:Int)-(B9 t20))).toNat 64))))(hW:0<W)(hFa:F=a/W)(hSb:S=b/W)(hb0:0<=b)(hba:b<=a)(hF64:F<18446744073709551616)
 (hK:∀ u0 u1 v0 v1 odd,A1p a b u0 u1 v0 v1 odd->K (.agg #[U u0,U u1,U v0,U v1,.bool odd]) h):Bi prog K t20 t26 t33 S h:=by
 have da:=aJ a W
 have db:=aJ b W
 have w:=aT a (b:=W) o
 have y:=aM a hW
 have z:=aT b (b:=W) o
 have A:=aM b hW
 have x:0<=S:=by rw [hSb];exact bK hb0 o
 have u:S<=F:=by rw [hSb,hFa];exact Int.ediv_le_ediv hW hba
 unfold Bi
 rw [<- hF]
 refine ⟨fun l C=>C=h/\∃ (first c i d u0 u1 v0 v1:Int) (odd:Bool),l=[U first,U c,U i,U d,U u0,U u1,U v0,U v1,.bool odd]/\LS F S first c u0 v0 u1 v1 i d odd/\A1p a b u0 u1 v0 v1 odd/\i<=F/\d<=(if F=0 then 1 else F),fun l _=>(iAt l 1).toNat,⟨rfl,_,_,_,_,_,_,_,_,_,rfl,LS.init x u,⟨o,o,o,o,fun e=>absurd rfl e⟩,o,o⟩,?_⟩
 rintro first c i d u0 u1 v0 v1 odd C ⟨rfl,r,m,H,O,R,ac,X,ab,D,V,j,s,M,N⟩
 obtain ⟨rfl,rfl,rfl,rfl,rfl,rfl,rfl,rfl,rfl⟩:=V
 have B:=j.v2pos
 have p:=j.ord
 have T:=j.hF
 refine B5 (fun h1=>?_) (fun _=>hK _ _ _ _ _ s)
 have q:1<=c:=o
 have aa:=j.bound2 q
 have L:first<=F:=by
  have t1:1*first<=d*first:=aD o o
  have t2:=aR (show 0<=v1 from o) p.1
  omega
 rw [B8 (n:=first-c) o o,B8 (n:=v1+d) o o]
 refine B5 (fun h2=>?_) (fun _=>hK _ _ _ _ _ s)
 refine B5 (fun e=>o) (fun _=>?_)
 refine B5 (fun e=>o) (fun _=>?_)
 rw [cT o,bC o]
 have g:=j.step o o
 have ad:=g.bound q
 have k:0<=first/c:=bK o o
 have G:first/c<=first:=dB _ o
 have E:=aR k (show 0<=i from o)
 have Q:=aR k (show 0<=d from o)
 rw [B8 (n:=first/c) o o,B8 (n:=first/c*i) o o,B8 (n:=first/c*d) o o,B8 (n:=u1+first/c*i) o o,B8 (n:=v1+first/c*d) o o]
 refine ⟨⟨rfl,_,_,_,_,_,_,_,_,_,rfl,g,⟨⟨o,s.2.1.2⟩,⟨o,o⟩,⟨o,s.2.2.2.1.2⟩,⟨o,o⟩,fun e=>g.leh e hW (al:=a%W) (bl:=b%W) ?_ ?_ ⟨w,y⟩ ⟨z,A⟩⟩,o,o⟩,?_⟩
 ·grind
 ·grind
 ·have:=aM first (show 0<c from o)
  simp only [iAt,aQ,aI];omega
set_option maxHeartbeats 1000000 in
def Kg{a b:Int}{an bn:Nat}(ma:Mw h A an a)(mb:Mw h B bn b)(hba:b<=a)(hb2:2<=bn)(hl:an<=100000000000000)
 (hK:∀ u0 u1 v0 v1 odd,A1p a b u0 u1 v0 v1 odd->K (.agg #[U u0,U u1,U v0,U v1,.bool odd]) h):aH prog 230 #[.slice A an ac,.slice B bn bc] h K:=by
 have T:=mb.nonneg dc
 have ag:bn<=an:=mb.len_le dc (cV hba (ma.lt dc))
 obtain ⟨k,rfl⟩:∃ k,an=k+2:=⟨an-2,o⟩
 obtain ⟨x,i,W,L,nx,rfl⟩:=ma
 obtain ⟨g,p,O,dy,ny,rfl⟩:=mb
 refine Nv _ _ _ _ _ _ ?_
 unfold Nw
 have e1:B6 (((k+2:Nat):Int)-1)=((k+1:Nat):Int):=by rw [B4 o o];omega
 have e2:B6 (((k+2:Nat):Int)-2)=(k:Int):=by rw [B4 o o];omega
 simp only [e1,e2]
 have gt:=I4 L (k+1)
 have S:=I4 L k
 have aa:=Lu (m:=k+1) i.symm nx
 obtain ⟨t,ht⟩:∃ t:Nat,x.getD (k+1) 0=t:=⟨(x.getD (k+1) 0).toNat,o⟩
 rw [i]
 refine W.load rfl o o ?_
 rw [aC,ht]
 rw [ht] at gt aa
 refine J2 o ⟨_,rfl,?_⟩
 obtain ⟨s,hs⟩:∃ s,s=64-H8 t:=⟨_,rfl⟩
 rw [<- hs]
 obtain ⟨ab,w,af⟩:=Jf L i.symm ht o hs
 refine W.load rfl o o ?_
 simp only [aC,ht]
 have j:B9 (s:Int)=s:=B8 o o
 have d:B9 (64-(s:Int))=((64-s:Nat):Int):=by rw [B8 o o];omega
 refine B5 (fun e=>by rw [j] at e;omega) (fun _=>?_)
 refine W.load rfl o o ?_
 simp only [aC]
 refine B5 (fun e=>by rw [j,d] at e;omega) (fun _=>?_)
 have X:0<(2:Int)^s:=bJ dc
 have r:0<(2:Int)^(64-s):=bJ dc
 have C:=O6 (s:=s) o
 have V:=C9 (B:=b64) dc k
 have R:0<b64^k*2^(64-s):=Int.mul_pos V r
 have n:=Tk L (k:=k) (s:=s) o o
 have c:=Tk dy (k:=k) (s:=s) o o
 have D:val b64 x/(b64^k*2^(64-s))<18446744073709551616:=by
  apply bD R
  have H:18446744073709551616*(b64^k*2^(64-s))*2^s=18446744073709551616*b64^k*(2^s*2^(64-s)):=gz0
  rw [C] at H
  have M:b64^(k+1+1)=18446744073709551616*b64^k*18446744073709551616:=by
   rw [bG,bG]
   show b64^k*18446744073709551616*18446744073709551616=_
   grind
  rw [M,<- H] at w
  exact Int.lt_of_mul_lt_mul_right w o
 have ae:val b64 g/(b64^k*2^(64-s))<=val b64 x/(b64^k*2^(64-s)):=Int.ediv_le_ediv R hba
 have q1:∀ z:Int,0<=z/\z<18446744073709551616->0<=z/2^(64-s)/\z/2^(64-s)<2^s:=fun z G=>
  ⟨bK G.1 o,bD r (by rw [C];exact G.2)⟩
 have y:∀ u z:Int,0<=u->0<=z/\z<18446744073709551616->u*2^s+z/2^(64-s)<18446744073709551616->bor .u64 (B9 (u*2^(min (B9 (s:Int)).toNat 64))) (aU z (2^(min (B9 (64-B9 (s:Int))).toNat 64)))=u*2^s+z/2^(64-s):=by
  intro u z hu G N
  have:=q1 z G
  have:=aR hu (aO X)
  rw [j,d,aC,aC,Wu o,aK (show s<=64 from o),B8 o o,No hu o N]
 have gy:=I4 dy (k+1)
 have Q:=I4 dy k
 rw [ht] at n
 refine ⟨fun l hp=>hp=h/\l=[U (val b64 g/(b64^k*2^(64-s)))],?_,?_⟩
 ·refine D6 (fun e=>?_) (fun e=>?_)
  ·rw [p]
   refine O.load rfl o o ?_
   simp only [aC]
   refine B5 (fun e=>by rw [j] at e;omega) (fun _=>?_)
   refine O.load rfl o o ?_
   simp only [aC]
   refine B5 (fun e=>by rw [j,d] at e;omega) (fun _=>?_)
   rw [y _ _ gy.1 Q o,c]
   first|exact ⟨rfl,rfl⟩|exact ⟨trivial,rfl⟩
  ·refine D6 (fun e=>?_) (fun e=>?_)
   ·rw [p]
    refine O.load rfl o o ?_
    simp only [aC]
    refine B5 (fun e=>by rw [j,d] at e;omega) (fun _=>?_)
    have:g.getD (k+1) 0=0:=by simp [dV,dJ (show g.length<=k+1 from o)]
    rw [this,dD,cE] at c
    rw [j,d,aC,Wu o,c]
    first|exact ⟨rfl,rfl⟩|exact ⟨trivial,rfl⟩
   ·have H:g.getD (k+1) 0=0:=by simp [dV,dJ (show g.length<=k+1 from o)]
    have M:g.getD k 0=0:=by simp [dV,dJ (show g.length<=k from o)]
    rw [H,M,dD,cE,Int.zero_ediv] at c
    rw [c]
    exact ⟨rfl,rfl⟩
 ·rintro E ad ⟨rfl,q⟩
  simp only [dH,Value.int.injEq,and_true,true_and] at q
  subst q
  exact Xl (F:=val b64 x/(b64^k*2^(64-s))) (by rw [y _ _ o S o,n]) R rfl rfl T hba D hK
end
