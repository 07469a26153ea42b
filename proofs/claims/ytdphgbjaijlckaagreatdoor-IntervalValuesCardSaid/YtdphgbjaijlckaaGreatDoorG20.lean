/- A part. -/
import Derived.Test.YtdphgbjaijlckaaGreatDoorG18
open Go.Proofs.Tryz
set_option linter.all false
open _root_.Go.Addr renaming add->dQ
open _root_.Go.Builtin renaming append_->bZ,copy_->cA
open _root_.ByteArray renaming size->bO
open _root_.Go.Extern.MathBitsCarry renaming m64->aN,pair->cJ,three->dB
open _root_.Go.Instr renaming storeAt->aQ,buildSlice->bM,makeSlice->cN
open Int renaming toNat_natCast->aC,mul_le_mul_of_nonneg_right->aD,tdiv->aF,mul_le_mul_of_nonneg_left->aG,mul_ediv_add_emod->aJ,tmod->aL,emod_lt_of_pos->aM,le_of_lt->aO,mul_nonneg->aS,emod_nonneg->aU,fdiv->aV,pow_add->aX,mul_comm->bA,tdiv_eq_ediv_of_nonneg->bC,ediv_lt_of_lt_mul->bD,mul_lt_mul_of_pos_right->bF,pow_succ->bH,ediv_eq_zero_of_lt->bI,pow_pos->bK,ediv_nonneg->bL,mul_lt_mul_of_pos_left->bN,zero_add->cI,natCast_mul->cM,mul_assoc->cR,mul_add->cU,tmod_eq_emod_of_nonneg->cX,mul_le_mul->cY,lt_of_le_of_lt->cZ,ediv_le_self->dG,ediv_ediv_of_nonneg->dH,zero_mul->dI,add_mul_ediv_right->dJ,add_mul_ediv_left->dP,mul_ediv_cancel->dR,mul_zero->dV,emod_eq_of_lt->dX,add_zero->dY,add_comm->dZ,add_mul_emod_self_right->eF,zero_emod->eJ,pow_zero->eU
open List renaming replicate->aE,getElem?_cons_zero->aI,length_take->aP,getElem?_cons_succ->aR,take_of_length_le->aY,drop_of_length_le->aZ,length_append->bB,drop_replicate->bJ,length_replicate->bV,append_nil->bY,take_length->cC,length_drop->cD,eq_nil_of_length_eq_zero->cF,append_assoc->cG,take_replicate->cK,nil_append->cL,drop_drop->cO,replicate_append_replicate->cQ,drop_append_of_le_length->cT,take_left'->cV,length_set->dL,take_append_drop->dN,getElem?_eq_none->dO,getD->eB,drop_append->eC,length_map->eD,drop_left'->eE,drop_zero->eG,drop_eq_getElem_cons->eI
open List.cons renaming injEq->dM
open Nat renaming min_eq_left->aK,le_refl->bG,sub_zero->bU,gcd->cW,pow_pos->dC,one_mul->dD,add_mul->dE,div_add_mod->dK,mul_assoc->dS,min_eq_right->eA,mul_div_cancel_left->eK,add_sub_cancel_left->eM,zero_mul->eO,mul_comm->eP,le_mul_of_pos_left->eQ,gcd_sub_self_right->eR,add_zero->eS
open Nat.Coprime renaming gcd_mul_left_cancel_right->cH
open _root_.Go.Value renaming int->bX
open _root_.Go.Value.slice renaming injEq->dU
open _root_.Go renaming Program->aT,Addr->bW,TypeId->cP,IntKind->dF,Value->dT
open _root_.Go.Proofs.YtdphgbjaijlckaaGreatDoor renaming FCall->aH,Heap->aW
namespace Go.Proofs.YtdphgbjaijlckaaGreatDoor
set_option maxRecDepth 20000
open Go
section
set_option maxRecDepth 100000
variable {h:aW} {K:VP}
def I6:SliceT prog 89 230 (U 0) 1 8:=⟨by kernel_rfl,by kernel_rfl,rfl,dc⟩
def D8:prog.cellsOf 230=1/\(prog.info? 230).isSome=true:=⟨by kernel_rfl,by kernel_rfl⟩
def Th:SliceT prog 266 89 (N0) 1 24:=⟨by kernel_rfl,by kernel_rfl,rfl,dc⟩
def X8(P:aT)(K:VP)(s:OA)(b t:Nat)(u:OA)(g:Nat)(e:OA)(i d:Nat)(v:aW):Prop:=
 ∃ (f:LP) (j:LN),f [I 0] v/\
 ∀ a c,f [I a] c->Bd (a<(g:Int)) (∃ l,Ax u l a g <| ∃ m,c.cell? (l.add (a.toNat*1))=some (U m)/\(0<=B7 (a+(b:Int))/\B7 (a+(b:Int))<=(d:Int))/\(0<=a/\a<=(((B7 (a+(b:Int))).toNat:Nat):Int))/\aH P 246 #[.slice (Q3 e d (a.toNat) 1) (((B7 (a+(b:Int))).toNat)-(a.toNat)) (d-(a.toNat)),Sl s b t,U m] c (fun w x=>∃ n,w=U n/\∃ o,Ax e o (B7 (a+(b:Int))) i<|wpH P (aQ 230 (Pt (o.add ((B7 (a+(b:Int))).toNat*1))) (U n)) (fun _ k=>f [I (B7 (a+1))] k/\j [I (B7 (a+1))] k<j [I a] c) x))
 (aH P 221 #[Sl e i d] c (fun y z=>∃ p q r,y=Sl p q r/\K (Sl p q r) z))
def U6(P:aT)(D:OA)(m E:Nat)(F:OA)(n G:Nat)(h:aW)(K:VP):Prop:=
 ∃ (o:LP),(Bd ((m:Int)<(n:Int)) (o [.slice F n G,.slice D m E] h)
 (o [.slice D m E,.slice F n G] h))/\
 ∀ f a c g b d k,o [.slice f a c,.slice g b d] k->Br ((b:Int)==0) (K (Sl none 0 0) k)
 (∃ (p:LP),(Br ((b:Int)==1) (∃ L,Ax g L (0:Int) b <| ∃ M,k.cell? (L.add (((0:Int)).toNat*1))=some (U M)/\p [.bool (M==1)] k)
 (p [.bool false] k))/\
 ∀ N j,p [.bool N] j->Br N (K (Sl f a c) j)
 (Bd ((b:Int)<40) (wpH P (cN 89 (I (B7 ((a:Int)+(b:Int)))) (I (B7 ((a:Int)+(b:Int))))) (fun b6 b7=>∃ O Q R,b6=Sl O Q R/\X8 P K f a c g b O Q R b7) j)
 (Bd ((b:Int)<=(B7 (aF (B7 ((a:Int)+1)) (2:Int)))) (aH P 247 #[Sl f a c,Sl g b d] j (fun b8 b9=>∃ S T V,b8=Sl S T V/\K (Sl S T V) b9))
 ((0<=B7 (aF (B7 ((a:Int)+1)) (2:Int))/\B7 (aF (B7 ((a:Int)+1)) (2:Int))<=(c:Int))/\(0<=B7 (aF (B7 ((a:Int)+1)) (2:Int))/\B7 (aF (B7 ((a:Int)+1)) (2:Int))<=(a:Int))/\aH P 221 #[.slice (Q3 f c 0 1) (((B7 (aF (B7 ((a:Int)+1)) (2:Int))).toNat)-0) (c-0)] j (fun c0 q=>∃ r s t,c0=Sl r s t/\j.le q/\(0<=B7 (aF (B7 ((a:Int)+1)) (2:Int))/\B7 (aF (B7 ((a:Int)+1)) (2:Int))<=(d:Int))/\(0<=B7 (aF (B7 ((a:Int)+1)) (2:Int))/\B7 (aF (B7 ((a:Int)+1)) (2:Int))<=(b:Int))/\aH P 221 #[.slice (Q3 g d 0 1) (((B7 (aF (B7 ((a:Int)+1)) (2:Int))).toNat)-0) (d-0)] q (fun c1 H=>∃ u v w,c1=Sl u v w/\q.le H/\aH P 197 #[Sl r s t,Sl u v w] H (fun c2 c3=>∃ x y z,c2=Sl x y z/\aH P 197 #[.slice (Q3 f c ((B7 (aF (B7 ((a:Int)+1)) (2:Int))).toNat) 1) (a-((B7 (aF (B7 ((a:Int)+1)) (2:Int))).toNat)) (c-((B7 (aF (B7 ((a:Int)+1)) (2:Int))).toNat)),.slice (Q3 g d ((B7 (aF (B7 ((a:Int)+1)) (2:Int))).toNat) 1) (b-((B7 (aF (B7 ((a:Int)+1)) (2:Int))).toNat)) (d-((B7 (aF (B7 ((a:Int)+1)) (2:Int))).toNat))] c3 (fun c4 c5=>∃ A B C,c4=Sl A B C/\aH P 198 #[Sl r s t,.slice (Q3 f c ((B7 (aF (B7 ((a:Int)+1)) (2:Int))).toNat) 1) (a-((B7 (aF (B7 ((a:Int)+1)) (2:Int))).toNat)) (c-((B7 (aF (B7 ((a:Int)+1)) (2:Int))).toNat))] c5 (fun c6 c7=>∃ W X a0,c6=Sl W X a0/\aH P 198 #[Sl u v w,.slice (Q3 g d ((B7 (aF (B7 ((a:Int)+1)) (2:Int))).toNat) 1) (b-((B7 (aF (B7 ((a:Int)+1)) (2:Int))).toNat)) (d-((B7 (aF (B7 ((a:Int)+1)) (2:Int))).toNat))] c7 (fun c8 c9=>∃ a1 a2 a3,c8=Sl a1 a2 a3/\aH P 197 #[Sl W X a0,Sl a1 a2 a3] c9 (fun d0 d1=>∃ a4 a5 a6,d0=Sl a4 a5 a6/\aH P 199 #[Sl a4 a5 a6,Sl x y z] d1 (fun d2 d3=>∃ a7 a8 a9,d2=Sl a7 a8 a9/\aH P 199 #[Sl a7 a8 a9,Sl A B C] d3 (fun d4 d5=>∃ b0 b1 b2,d4=Sl b0 b1 b2/\wpH P (cN 89 (I (B7 ((a:Int)+(b:Int)))) (I (B7 ((a:Int)+(b:Int))))) (fun d6 d7=>∃ l e i,d6=Sl l e i/\wpH P (cA #[89,89] 3 #[Sl l e i,Sl x y z]) (fun d8 d9=>∃ e6,d8=I e6/\(0<=B7 ((2:Int)*(B7 (aF (B7 ((a:Int)+1)) (2:Int))))/\B7 ((2:Int)*(B7 (aF (B7 ((a:Int)+1)) (2:Int))))<=(e:Int))/\wpH P (cA #[89,89] 3 #[.slice (Q3 l i ((B7 ((2:Int)*(B7 (aF (B7 ((a:Int)+1)) (2:Int))))).toNat) 1) (e-((B7 ((2:Int)*(B7 (aF (B7 ((a:Int)+1)) (2:Int))))).toNat)) (i-((B7 ((2:Int)*(B7 (aF (B7 ((a:Int)+1)) (2:Int))))).toNat)),Sl A B C]) (fun e0 e1=>∃ e7,e0=I e7/\(0<=B7 (aF (B7 ((a:Int)+1)) (2:Int))/\B7 (aF (B7 ((a:Int)+1)) (2:Int))<=(e:Int))/\aH P 248 #[.slice (Q3 l i ((B7 (aF (B7 ((a:Int)+1)) (2:Int))).toNat) 1) (e-((B7 (aF (B7 ((a:Int)+1)) (2:Int))).toNat)) (i-((B7 (aF (B7 ((a:Int)+1)) (2:Int))).toNat)),Sl b0 b1 b2] e1 (fun e2 e3=>e2=T0/\aH P 221 #[Sl l e i] e3 (fun e4 e5=>∃ b3 b4 b5,e4=Sl b3 b4 b5/\K (Sl b3 b4 b5) e5))) d9) d7) d5)))))))))))))
def X7 a b c d e f(hvc:U6 prog a b c d e f h K):aH prog 197 #[Sl a b c,Sl d e f] h K:=
 fnq func197 ⟨[(11,⟨[55],[],[I 0],⟨([7,8]++Lrg 55 22),[]⟩⟩)],[(3,⟨[0,1],[],[N0,N0],⟨[0,1,17,18,19,20,21,22,23],[]⟩⟩),(7,⟨[32],[],[.bool false],⟨(Lrg 32 10),[]⟩⟩)],[(18,([0,1,2,4,5,6,3,7,8],[])),(19,([0,1,2,4,5,6,3,7,8],[]))],[],[]⟩ [] [246,248] hvc
def Ah(P:aT)(d:Nat)(w:OA)(k:Nat)(e:OA)(f:Nat)(b:Int)(x:Int)(y:LP)(z:aW):Prop:=
 ∃ (i:LP) (l:LN),i [U 0,I 0] z/\
 ∀ g a c,i [U g,I a] c->Bd (a<(k:Int)) (∃ o,Ax w o a k <| ∃ p,c.cell? (o.add (a.toNat*1))=some (U p)/\∃ q,Ax e q (B7 (b+a)) f <| ∃ r,c.cell? (q.add ((B7 (b+a)).toNat*1))=some (U r)/\ECall P 274 #[U r,U p,U g] c (fun A B=>∃ (m:Int) (j:Int),A= .tuple #[U m,U j]/\∃ s,Ax e s (B7 (b+a)) f<|wpH P (aQ 230 (Pt (s.add ((B7 (b+a)).toNat*1))) (U m)) (fun _ n=>i [U j,I (B7 (a+1))] n/\l [U j,I (B7 (a+1))] n<l [U g,I a] c) B))
 (∃ t,Ax e t (B7 (b+(d:Int))) f <| ∃ u,c.cell? (t.add ((B7 (b+(d:Int))).toNat*1))=some (U u)/\∃ v,Ax e v (B7 (b+(d:Int))) f<|wpH P (aQ 230 (Pt (v.add ((B7 (b+(d:Int))).toNat*1))) (U (C4 (u+g)))) (fun _ C=>y [U (C4 (x-1))] C) c)
def Ai(P:aT)(b:Nat)(K:VP)(L:Int)(g:OA)(i n:Nat)(d:OA)(e c:Nat)(o:OA)(p M:Nat)(N:LP)(q:LN)(a:Int)(j:aW):Prop:=
 Bd (a>=0) ((0<=B7 ((B7 (a+(b:Int)))+1)/\B7 ((B7 (a+(b:Int)))+1)<=(c:Int))/\(0<=a/\a<=(((B7 ((B7 (a+(b:Int)))+1)).toNat:Nat):Int))/\aH P 283 #[.slice (Q3 d c (a.toNat) 1) (((B7 ((B7 (a+(b:Int)))+1)).toNat)-(a.toNat)) (c-(a.toNat)),Sl g i n] j (fun O Q=>∃ f,O=U f/\(0<=B7 (a+(b:Int))/\B7 (a+(b:Int))<=(c:Int))/\(0<=a/\a<=(((B7 (a+(b:Int))).toNat:Nat):Int))/\aH P 284 #[.slice (Q3 d c (a.toNat) 1) (((B7 (a+(b:Int))).toNat)-(a.toNat)) (c-(a.toNat)),Sl g i n,U f] Q (fun R r=>∃ l,R=U l/\∃ u,Ax d u (B7 (a+(b:Int))) e <| ∃ m,r.cell? (u.add ((B7 (a+(b:Int))).toNat*1))=some (U m)/\∃ v,Ax d v (B7 (a+(b:Int))) e<|wpH P (aQ 230 (Pt (v.add ((B7 (a+(b:Int))).toNat*1))) (U (C4 (m-l)))) (fun _ s=>∃ (k:LP),(Bd (m<l) (Ah P b g i d e a f k s)
 (k [U f] s))/\
 ∀ w x,k [U w] x->∃ y,Ax o y a p<|wpH P (aQ 230 (Pt (y.add (a.toNat*1))) (U w)) (fun _ t=>N [I (B7 (a-1))] t/\q [I (B7 (a-1))] t<q [I a] j) x) r)))
 (aH P 221 #[Sl o p M] j (fun S T=>∃ z A B,S=Sl z A B/\aH P 221 #[Sl d e c] T (fun V W=>∃ C D E,V=Sl C D E/\aH P 281 #[Sl C D E,U (C4 L)] W (fun X a0=>∃ F G H,X=Sl F G H/\K (.tuple #[Sl z A B,Sl F G H]) a0))))
def Q7(P:aT)(e b:Nat)(K:VP)(f:Int)(g:OA)(i j:Nat)(k:OA)(l m:Nat)(n:OA)(o p:Nat)(q:aW):Prop:=
 ∃ (a:LP) (r:LN),a [I (B7 ((e:Int)-(b:Int)))] q/\
 ∀ c d,a [I c] d->Ai P b K f g i j k l m n o p a r c d
def Fe(P:aT)(d:OA)(b e:Nat)(f:OA)(a l:Nat)(h:aW)(K:VP):Prop:=
 aH P 196 #[Sl d b e,Sl f a l] h (fun H c=>∃ q,H=I q/\Bd (q<0) (K (.tuple #[Sl none 0 0,Sl d b e]) c)
 (Br ((a:Int)==1) (∃ r,Ax f r (0:Int) a <| ∃ s,c.cell? (r.add (((0:Int)).toNat*1))=some (U s)/\aH P 282 #[Sl d b e,U s] c (fun L M=>∃ (m:OA) (n o:Nat) (p:Int),L= .tuple #[Sl m n o,U p]/\aH P 233 #[U p] M (fun N O=>∃ t u v,N=Sl t u v/\K (.tuple #[Sl m n o,Sl t u v]) O)))
 (∃ w,Ax f w (B7 ((a:Int)-1)) a <| ∃ x,c.cell? (w.add ((B7 ((a:Int)-1)).toNat*1))=some (U x)/\aH P 258 #[U x] c (fun Q R=>∃ g,Q=I g/\aH P 276 #[Sl f a l,U (C4 g)] R (fun S T=>∃ y z A,S=Sl y z A/\wpH P (cN 89 (I (B7 ((b:Int)+1))) (I (B7 ((b:Int)+1)))) (fun V W=>∃ i j k,V=Sl i j k/\aH P 276 #[Sl d b e,U (C4 g)] W (fun X a0=>∃ B C D,X=Sl B C D/\wpH P (cA #[89,89] 3 #[Sl i j k,Sl B C D]) (fun a1 a2=>∃ a5,a1=I a5/\wpH P (cN 89 (I (B7 ((B7 ((b:Int)-(a:Int)))+1))) (I (B7 ((B7 ((b:Int)-(a:Int)))+1)))) (fun a3 a4=>∃ E F G,a3=Sl E F G/\Q7 P b a K g y z A i j k E F G a4) a2) a0)) T)))))
def Hj a b c d e f(hvc:Fe prog a b c d e f h K):aH prog 260 #[Sl a b c,Sl d e f] h K:=
 fnq func260 ⟨[(13,⟨[13],[],[I 0],⟨([13,14,15,16,17,18,19]++Lrg 72 79),[]⟩⟩),(23,⟨[17,115],[],[U 0,I 0],⟨([17,18,19]++Lrg 115 23),[]⟩⟩)],[(28,⟨[14],[],[U 0],⟨([14,17,18,19]++Lrg 108 39),[]⟩⟩)],[],[],[]⟩ [] [284] hvc
def Q8(P:aT)(c:Nat)(K:VP)(a:Int)(N:Int)(O:OA)(Q R:Nat)(S:OA)(o T:Nat)(p:OA)(i j:Nat)(V:aW):Prop:=
 ∃ (k:LP) (q:LN),k [N0,I (B7 ((B7 (aF (B7 ((o:Int)-1)) (B7 ((B7 (aF (B7 ((B7 ((c:Int)+a))-1)) a))*a))))*(B7 ((B7 (aF (B7 ((B7 ((c:Int)+a))-1)) a))*a))))] V/\
 ∀ d e f b g,k [.slice d e f,I b] g->Bd (b>=0) (aH P 278 #[Sl S o T,I b] g (fun W X=>∃ v w x,W=Sl v w x/\aH P 277 #[Sl v w x,I (B7 ((B7 (aF (B7 ((B7 ((c:Int)+a))-1)) a))*a))] X (fun a0 a1=>∃ y z A,a0=Sl y z A/\aH P 280 #[Sl d e f,Sl y z A,I (B7 ((B7 (aF (B7 ((B7 ((c:Int)+a))-1)) a))*a))] a1 (fun a2 a3=>∃ B C D,a2=Sl B C D/\aH P 279 #[Sl B C D,Sl O Q R] a3 (fun a4 a5=>∃ (r:OA) (s t:Nat) (l:OA) (m n:Nat),a4= .tuple #[Sl r s t,Sl l m n]/\(0<=b/\b<=(i:Int))/\wpH P (cA #[89,89] 3 #[.slice (Q3 p j (b.toNat) 1) (i-(b.toNat)) (j-(b.toNat)),Sl r s t]) (fun a6 u=>∃ b1,a6=I b1/\k [.slice l m n,I (B7 (b-(B7 ((B7 (aF (B7 ((B7 ((c:Int)+a))-1)) a))*a))))] u/\q [.slice l m n,I (B7 (b-(B7 ((B7 (aF (B7 ((B7 ((c:Int)+a))-1)) a))*a))))] u<q [.slice d e f,I b] g) a5)))))
 (aH P 221 #[Sl p i j] g (fun a7 a8=>∃ E F G,a7=Sl E F G/\aH P 281 #[Sl d e f,U (C4 (B7 ((B7 ((64:Int)*(B7 ((B7 ((B7 (aF (B7 ((B7 ((c:Int)+a))-1)) a))*a))-(c:Int)))))+N)))] a8 (fun a9 b0=>∃ H L M,a9=Sl H L M/\K (.tuple #[Sl E F G,Sl H L M]) b0)))
def Bw(P:aT)(t:OA)(u v:Nat)(g:OA)(b w:Nat)(h:aW)(K:VP):Prop:=
 ∃ (f:LP) (i:LN),f [I 1] h/\
 ∀ a c,f [I a] c->Bd (a=0) False
 (Bd ((B7 (aF (B7 ((B7 ((b:Int)+a))-1)) a))>=80) (f [I (B7 (a*(2:Int)))] c/\i [I (B7 (a*(2:Int)))] c<i [I a] c)
 (Bd (a=0) False
 (∃ j,Ax g j (B7 ((b:Int)-1)) b <| ∃ k,c.cell? (j.add ((B7 ((b:Int)-1)).toNat*1))=some (U k)/\aH P 258 #[U k] c (fun x y=>∃ e,x=I e/\aH P 276 #[Sl g b w,U (C4 (B7 ((B7 ((64:Int)*(B7 ((B7 ((B7 (aF (B7 ((B7 ((b:Int)+a))-1)) a))*a))-(b:Int)))))+e)))] y (fun z A=>∃ l m n,z=Sl l m n/\aH P 276 #[Sl t u v,U (C4 (B7 ((B7 ((64:Int)*(B7 ((B7 ((B7 (aF (B7 ((B7 ((b:Int)+a))-1)) a))*a))-(b:Int)))))+e)))] A (fun B C=>∃ o d p,B=Sl o d p/\wpH P (cN 89 (I (B7 ((d:Int)+(B7 ((B7 (aF (B7 ((B7 ((b:Int)+a))-1)) a))*a))))) (I (B7 ((d:Int)+(B7 ((B7 (aF (B7 ((B7 ((b:Int)+a))-1)) a))*a)))))) (fun D E=>∃ q r s,D=Sl q r s/\Bd (B7 ((B7 (aF (B7 ((B7 ((b:Int)+a))-1)) a))*a)=0) False
 (Q8 P b K a e l m n o d p q r s E)) C))))))
def Ff(P:aT)(a:OA)(b c:Nat)(d:OA)(e f:Nat)(h:aW)(K:VP):Prop:=
 Bw P a b c d e f h K
def Hk a b c d e f(hvc:Ff prog a b c d e f h K):aH prog 259 #[Sl a b c,Sl d e f] h K:=
 fnq func259 { loops:=[(3,⟨[7],[],[I 0],⟨([7]++Lrg 20 9),[]⟩⟩),(11,⟨[13,14],[],[N0,I 0],⟨([13,14,15,16,17]++Lrg 67 25),[]⟩⟩)] } [] [] hvc
def Q6(P:aT)(C:OA)(D E:Nat)(K:VP)(F:OA)(G H:Nat)(p:OA)(q r:Nat)(L:OA)(M N:Nat)(O:aW):Prop:=
 ∃ (g:LP) (s:LN),g [.slice F G H,.slice L M N] O/\
 ∀ d e f a b c i,g [.slice d e f,.slice a b c] i->aH P 196 #[Sl a b c,Sl p q r] i (fun Q t=>∃ v,Q=I v/\Bd (v<0) (aH P 198 #[Sl a b c,Sl C D E] t (fun R S=>∃ j k l,R=Sl j k l/\wpH P (bM 89 1 #[(0,U 1)]) (fun T V=>∃ w x y,T=Sl w x y/\aH P 199 #[Sl d e f,Sl w x y] V (fun W u=>∃ m n o,W=Sl m n o/\g [.slice m n o,.slice j k l] u/\s [.slice m n o,.slice j k l] u<s [.slice d e f,.slice a b c] i)) S))
 (aH P 199 #[Sl a b c,Sl p q r] t (fun X a0=>∃ z A B,X=Sl z A B/\K (.tuple #[Sl d e f,Sl z A B]) a0)))
def Fd(P:aT)(d:OA)(e f:Nat)(c:OA)(a b:Nat)(h:aW)(K:VP):Prop:=
 (0<=B7 (aF (a:Int) (2:Int))/\B7 (aF (a:Int) (2:Int))<=(b:Int))/\(0<=B7 (aF (a:Int) (2:Int))/\B7 (aF (a:Int) (2:Int))<=(a:Int))/\aH P 221 #[.slice (Q3 c b 0 1) (((B7 (aF (a:Int) (2:Int))).toNat)-0) (b-0)] h (fun b2 u=>∃ w x y,b2=Sl w x y/\h.le u/\aH P 278 #[Sl d e f,I (B7 (aF (a:Int) (2:Int)))] u (fun b3 b4=>∃ i j k,b3=Sl i j k/\∃ (g:LP),(aH P 278 #[Sl d e f,I (B7 ((2:Int)*(B7 (aF (a:Int) (2:Int)))))] b4 (fun b5 b6=>∃ z A B,b5=Sl z A B/\aH P 196 #[Sl z A B,.slice (Q3 c b ((B7 (aF (a:Int) (2:Int))).toNat) 1) (a-((B7 (aF (a:Int) (2:Int))).toNat)) (b-((B7 (aF (a:Int) (2:Int))).toNat))] b6 (fun b7 v=>∃ C,b7=I C/\Bd (C<0) (aH P 279 #[Sl i j k,.slice (Q3 c b ((B7 (aF (a:Int) (2:Int))).toNat) 1) (a-((B7 (aF (a:Int) (2:Int))).toNat)) (b-((B7 (aF (a:Int) (2:Int))).toNat))] v (fun b8 b9=>∃ (o:OA) (p q:Nat) (r:OA) (s t:Nat),b8= .tuple #[Sl o p q,Sl r s t]/\g [.slice o p q,.slice r s t] b9))
 (wpH P (bM 89 1 #[(0,U 18446744073709551615)]) (fun c0 c1=>∃ D E F,c0=Sl D E F/\aH P 287 #[Sl D E F,I (B7 (aF (a:Int) (2:Int)))] c1 (fun c2 c3=>∃ G H L,c2=Sl G H L/\aH P 280 #[.slice (Q3 c b ((B7 (aF (a:Int) (2:Int))).toNat) 1) (a-((B7 (aF (a:Int) (2:Int))).toNat)) (b-((B7 (aF (a:Int) (2:Int))).toNat)),Sl none 0 0,I (B7 (aF (a:Int) (2:Int)))] c3 (fun c4 c5=>∃ M N O,c4=Sl M N O/\aH P 199 #[Sl i j k,Sl M N O] c5 (fun c6 c7=>∃ Q R S,c6=Sl Q R S/\aH P 198 #[Sl Q R S,.slice (Q3 c b ((B7 (aF (a:Int) (2:Int))).toNat) 1) (a-((B7 (aF (a:Int) (2:Int))).toNat)) (b-((B7 (aF (a:Int) (2:Int))).toNat))] c7 (fun c8 c9=>∃ T V W,c8=Sl T V W/\g [.slice G H L,.slice T V W] c9))))) v))))/\
 ∀ l m n X a0 a1 a2,g [.slice l m n,.slice X a0 a1] a2->aH P 197 #[Sl l m n,Sl w x y] a2 (fun d0 d1=>∃ a3 a4 a5,d0=Sl a3 a4 a5/\aH P 277 #[Sl d e f,I (B7 (aF (a:Int) (2:Int)))] d1 (fun d2 d3=>∃ a6 a7 a8,d2=Sl a6 a7 a8/\aH P 280 #[Sl X a0 a1,Sl a6 a7 a8,I (B7 (aF (a:Int) (2:Int)))] d3 (fun d4 d5=>∃ a9 b0 b1,d4=Sl a9 b0 b1/\Q6 P c a b K l m n a3 a4 a5 a9 b0 b1 d5)))))
def Hi a b c d e f(hvc:Fd prog a b c d e f h K):aH prog 286 #[Sl a b c,Sl d e f] h K:=
 fnq func286 ⟨[(11,⟨[10,11],[],[N0,N0],⟨([10,11]++Lrg 58 10),[]⟩⟩)],[(9,⟨[10,11],[],[N0,N0],⟨([10,11]++Lrg 26 23),[]⟩⟩)],[(2,([0,1,2,4,5,6,3,7,8],[]))],[],[]⟩ [] [] hvc
def Ha(P:aT)(C:LP)(s:LN)(f:OA)(d g:Nat)(t:OA)(u v:Nat)(D:Int)(E:Int)(F:Int)(G:Int)(H:Bool)(L:aW)(M:aW):Prop:=
 ∃ (i:LP) (w:LN),i [.slice t u v] L/\
 ∀ b a c e,i [.slice b a c] e->Bd ((a:Int)<(d:Int)) (wpH P (bM 89 1 #[(0,U 0)]) (fun N O=>∃ z A B,N=Sl z A B/\wpH P (bZ #[89,89] 89 #[Sl b a c,Sl z A B]) (fun Q x=>∃ j k l,Q=Sl j k l/\i [.slice j k l] x/\w [.slice j k l] x<w [.slice b a c] e) O) e)
 (aH P 232 #[.agg #[U D,U E,U F,U G,.bool H],.slice f d g,.slice b a c] e (fun R S=>R=T0/\aH P 221 #[Sl f d g] S (fun T V=>∃ m n o,T=Sl m n o/\aH P 221 #[Sl b a c] V (fun W y=>∃ p q r,W=Sl p q r/\C [.slice m n o,.slice p q r] y/\s [.slice m n o,.slice p q r] y<s [.slice f d g,.slice t u v] M))))
def Dq(P:aT)(K:VP)(M:OA)(N O:Nat)(Q:OA)(R S:Nat)(T:aW):Prop:=
 ∃ (i:LP) (j:LN),i [.slice M N O,.slice Q R S] T/\
 ∀ d e f b a g c,i [.slice d e f,.slice b a g] c->Bd ((a:Int)>1) (aH P 230 #[Sl d e f,Sl b a g] c (fun a0 x=>∃ (q:Int) (r:Int) (k:Int) (s:Int) (t:Bool),a0= .agg #[U q,U r,U k,U s,.bool t]/\Br (k==0) (aH P 231 #[Sl d e f,Sl b a g] x (fun a1 a2=>∃ (V:OA) (W X:Nat) (u:OA) (v w:Nat),a1= .tuple #[Sl V W X,Sl u v w]/\aH P 229 #[Sl u v w] a2 (fun a3 y=>∃ n o p,a3=Sl n o p/\i [.slice b a g,.slice n o p] y/\j [.slice b a g,.slice n o p] y<j [.slice d e f,.slice b a g] c)))
 (Ha P i j d e f b a g q r k s t x c)))
 (Br ((a:Int)==0) (K (Sl d e f) c)
 (∃ A,Ax b A (0:Int) a <| ∃ B,c.cell? (A.add (((0:Int)).toNat*1))=some (U B)/\∃ C,Ax b C (0:Int) a <| ∃ D,c.cell? (C.add (((0:Int)).toNat*1))=some (U D)/\aH P 235 #[Sl d e f,U D] c (fun a4 l=>∃ E,a4=U E/\c.le l/\aH P 234 #[U B,U E] l (fun a5 m=>∃ F,a5=U F/\l.le m/\aH P 233 #[U F] m (fun a6 z=>∃ G H L,a6=Sl G H L/\m.le z/\K (Sl G H L) z)))))
def Zs(P:aT)(a:OA)(b c:Nat)(d:OA)(e f:Nat)(h:aW)(K:VP):Prop:=
 ∃ (g:LP),(aH P 196 #[Sl a b c,Sl d e f] h (fun x n=>∃ o,x=I o/\Bd (o<0) (g [.slice d e f,.slice a b c] n)
 (g [.slice a b c,.slice d e f] n)))/\
 ∀ j k l p i q m,g [.slice j k l,.slice p i q] m->Br ((i:Int)==0) (K (Sl j k l) m)
 (aH P 229 #[Sl j k l] m (fun y z=>∃ r s t,y=Sl r s t/\aH P 229 #[Sl p i q] z (fun A B=>∃ u v w,A=Sl u v w/\Dq P K r s t u v w B)))
def Qf a b c d e f(hvc:Zs prog a b c d e f h K):aH prog 186 #[Sl a b c,Sl d e f] h K:=
 fnq func186 ⟨[(6,⟨[5,6],[],[N0,N0],⟨([5,6,7,8,9]++Lrg 24 34),[7]⟩⟩),(11,⟨[6],[],[N0],⟨([6]++Lrg 42 8),[]⟩⟩)],[(3,⟨[0,1],[],[N0,N0],⟨[0,1,10,11,12,13,14,15],[]⟩⟩)],[],[],[]⟩ [7] [232] hvc
def Bv(P:aT)(K:VP)(m:Int)(o:Int)(p:Int)(q:Int)(r:aW):Prop:=
 ∃ (l:LP) (n:LN),l [U (bor .u64 (C4 (o*2^(min (C4 m).toNat 64))) (aV p (2^(min (C4 ((64:Int)-(C4 m))).toNat 64)))),U q,U 0,U 1,U 0,U 1,U 0,U 0,.bool false] r/\
 ∀ b a f d j e k c g i,l [U b,U a,U f,U d,U j,U e,U k,U c,.bool g] i->Bd (a>=d) (Bd ((C4 (b-a))>=(C4 (c+d))) (Bd (a=0) False
 (Bd (a=0) False
 (l [U a,U (aL b a),U (C4 (e+(C4 ((C4 (aF b a))*f)))),U (C4 (c+(C4 ((C4 (aF b a))*d)))),U e,U f,U c,U d,.bool (!g)] i/\n [U a,U (aL b a),U (C4 (e+(C4 ((C4 (aF b a))*f)))),U (C4 (c+(C4 ((C4 (aF b a))*d)))),U e,U f,U c,U d,.bool (!g)] i<n [U b,U a,U f,U d,U j,U e,U k,U c,.bool g] i)))
 (K (.agg #[U j,U e,U k,U c,.bool g]) i))
 (K (.agg #[U j,U e,U k,U c,.bool g]) i)
def Qd(P:aT)(f:OA)(a x:Nat)(g:OA)(d y:Nat)(h:aW)(K:VP):Prop:=
 ∃ i,Ax f i (B7 ((a:Int)-1)) a <| ∃ j,h.cell? (i.add ((B7 ((a:Int)-1)).toNat*1))=some (U j)/\aH P 258 #[U j] h (fun w c=>∃ b,w=I b/\∃ k,Ax f k (B7 ((a:Int)-1)) a <| ∃ l,c.cell? (k.add ((B7 ((a:Int)-1)).toNat*1))=some (U l)/\Bd (C4 b<0) False
 (∃ m,Ax f m (B7 ((a:Int)-2)) a <| ∃ n,c.cell? (m.add ((B7 ((a:Int)-2)).toNat*1))=some (U n)/\Bd (C4 ((64:Int)-(C4 b))<0) False
 (∃ (e:LP),(Br ((d:Int)==(a:Int)) (∃ o,Ax g o (B7 ((a:Int)-1)) d <| ∃ p,c.cell? (o.add ((B7 ((a:Int)-1)).toNat*1))=some (U p)/\Bd (C4 b<0) False
 (∃ q,Ax g q (B7 ((a:Int)-2)) d <| ∃ r,c.cell? (q.add ((B7 ((a:Int)-2)).toNat*1))=some (U r)/\Bd (C4 ((64:Int)-(C4 b))<0) False
 (e [U (bor .u64 (C4 (p*2^(min (C4 b).toNat 64))) (aV r (2^(min (C4 ((64:Int)-(C4 b))).toNat 64))))] c)))
 (Br ((d:Int)==(B7 ((a:Int)-1))) (∃ s,Ax g s (B7 ((a:Int)-2)) d <| ∃ t,c.cell? (s.add ((B7 ((a:Int)-2)).toNat*1))=some (U t)/\Bd (C4 ((64:Int)-(C4 b))<0) False
 (e [U (aV t (2^(min (C4 ((64:Int)-(C4 b))).toNat 64)))] c))
 (e [U 0] c)))/\
 ∀ u v,e [U u] v->Bv P K b l n u v)))
def Qc a b c d e f(hvc:Qd prog a b c d e f h K):aH prog 230 #[Sl a b c,Sl d e f] h K:=
 fnq func230 ⟨[(13,⟨[7,8,10,11],[(9,5)],[U 0,U 0,U 0,U 0,U 0,U 0,U 0,U 0,.bool false],⟨([7,8,10,11,12]++Lrg 72 46),[9]⟩⟩)],[(10,⟨[8],[],[U 0],⟨([8]++Lrg 38 33),[]⟩⟩)],[],[],[]⟩ [4,9] [] hvc
def S9(P:aT)(o:LP)(i:LN)(a:ByteArray)(d:OA)(c f:Nat)(A:Int)(B:Int)(p:aW)(C:aW):Prop:=
 ∃ (j:LP) (q:LN),j [U A,I 0] C/\
 ∀ g b e,j [U g,I b] e->Bd (b<(c:Int)) (∃ u,Ax d u b c <| ∃ v,e.cell? (u.add (b.toNat*1))=some (U v)/\aH P 261 #[U v,U B,U g] e (fun D E=>∃ (r:Int) (k:Int),D= .tuple #[U r,U k]/\∃ w,Ax d w b c<|wpH P (aQ 230 (Pt (w.add (b.toNat*1))) (U r)) (fun _ s=>j [U k,I (B7 (b+1))] s/\q [U k,I (B7 (b+1))] s<q [U g,I b] e) E))
 (Br (g != 0) (wpH P (bM 89 1 #[(0,U g)]) (fun F G=>∃ x y z,F=Sl x y z/\wpH P (bZ #[89,89] 89 #[Sl d c f,Sl x y z]) (fun H t=>∃ l m n,H=Sl l m n/\o [.string ((a).extract ((B7 ((aL (B7 (((bO a:Nat):Int)-1)) (19:Int))+1)).toNat) ((a).size)),.slice l m n] t/\i [.string ((a).extract ((B7 ((aL (B7 (((bO a:Nat):Int)-1)) (19:Int))+1)).toNat) ((a).size)),.slice l m n] t<i [.string a,.slice d c f] p) G) e)
 (o [.string ((a).extract ((B7 ((aL (B7 (((bO a:Nat):Int)-1)) (19:Int))+1)).toNat) ((a).size)),.slice d c f] e/\i [.string ((a).extract ((B7 ((aL (B7 (((bO a:Nat):Int)-1)) (19:Int))+1)).toNat) ((a).size)),.slice d c f] e<i [.string a,.slice d c f] p))
def Dc(P:aT)(l:LP)(m:LN)(e:ByteArray)(n:OA)(o p:Nat)(q:OA)(i:Nat)(r:aW)(s:aW):Prop:=
 ∃ (f:LP) (j:LN),f [U 0,U 1,I 0] r/\
 ∀ c d a b,f [U c,U d,I a] b->Bd (a<(i:Int)) (∃ k,Ax q k a i <| ∃ g,b.cell? (k.add (a.toNat*1))=some (Y g)/\f [U (C4 ((C4 ((10:Int)*c))+(C4 (wu8 (g-48))))),U (C4 (d*(10:Int))),I (B7 (a+1))] b/\j [U (C4 ((C4 ((10:Int)*c))+(C4 (wu8 (g-48))))),U (C4 (d*(10:Int))),I (B7 (a+1))] b<j [U c,U d,I a] b)
 ((0<=B7 ((aL (B7 (((bO e:Nat):Int)-1)) (19:Int))+1)/\B7 ((aL (B7 (((bO e:Nat):Int)-1)) (19:Int))+1)<=(((e).size:Nat):Int))/\S9 P l m e n o p c d s b)
def Jy(P:aT)(j:ByteArray)(h:aW)(K:VP):Prop:=
 ∃ (c:LP) (k:LN),c [.string j,N0] h/\
 ∀ a d e f b,c [.string a,.slice d e f] b->Bd (((bO a:Nat):Int)>0) ((0<=B7 ((aL (B7 (((bO a:Nat):Int)-1)) (19:Int))+1)/\B7 ((aL (B7 (((bO a:Nat):Int)-1)) (19:Int))+1)<=(((a).size:Nat):Int))/\wpH P (convert 9 166 (.string ((a).extract 0 ((B7 ((aL (B7 (((bO a:Nat):Int)-1)) (19:Int))+1)).toNat)))) (fun l m=>∃ g i n,l=Sl g i n/\Dc P c k a d e f g i m b) b)
 (K (Sl d e f) b)
def Qe(P:aT)(a:ByteArray)(h:aW)(K:VP):Prop:=
 Jy P a h K
def Jn a(hvc:Qe prog a h K):aH prog 257 #[.string a] h K:=
 fnq func257 { loops:=[(2,⟨[0,3],[],[.string ⟨#[]⟩,N0],⟨([0,3,4,5,6]++Lrg 8 58),[]⟩⟩),(6,⟨[5,6,25],[],[U 0,U 0,I 0],⟨([5,6,8]++Lrg 25 13),[]⟩⟩),(14,⟨[9,44],[],[U 0,I 0],⟨([9,10,11]++Lrg 44 16),[]⟩⟩)] } [] [] hvc
def U7(P:aT)(H:Nat)(L:LP)(p:LN)(q:OA)(r s:Nat)(j:Int)(M:Int)(N:aW)(O:aW):Prop:=
 ∃ (k:LP) (l:LN),k [.slice q r s,U M,I (B7 (j+(H:Int)))] N/\
 ∀ c b d f a e,k [.slice c b d,U f,I a] e->Br (f != 0) (Br (a==(b:Int)) (wpH P (bM 89 1 #[(0,U 0)]) (fun Q R=>∃ y z A,Q=Sl y z A/\wpH P (bZ #[89,89] 89 #[Sl c b d,Sl y z A]) (fun S v=>∃ g i o,S=Sl g i o/\∃ B,Ax g B a i <| ∃ C,v.cell? (B.add (a.toNat*1))=some (U C)/\ECall P 274 #[U C,U f,U 0] v (fun T V=>∃ (t:Int) (m:Int),T= .tuple #[U t,U m]/\∃ D,Ax g D a i<|wpH P (aQ 230 (Pt (D.add (a.toNat*1))) (U t)) (fun _ w=>k [.slice g i o,U m,I (B7 (a+1))] w/\l [.slice g i o,U m,I (B7 (a+1))] w<l [.slice c b d,U f,I a] e) V)) R) e)
 (∃ E,Ax c E a b <| ∃ F,e.cell? (E.add (a.toNat*1))=some (U F)/\ECall P 274 #[U F,U f,U 0] e (fun W X=>∃ (u:Int) (n:Int),W= .tuple #[U u,U n]/\∃ G,Ax c G a b<|wpH P (aQ 230 (Pt (G.add (a.toNat*1))) (U u)) (fun _ x=>k [.slice c b d,U n,I (B7 (a+1))] x/\l [.slice c b d,U n,I (B7 (a+1))] x<l [.slice c b d,U f,I a] e) X)))
 (L [.slice c b d,I (B7 (j+1))] e/\p [.slice c b d,I (B7 (j+1))] e<p [.slice q r s,I j] O)
def Fg(P:aT)(K:VP)(m:OA)(b n:Nat)(o:OA)(i:Nat)(p:OA)(q r:Nat)(s:aW):Prop:=
 ∃ (f:LP) (t:LN),f [.slice p q r,I 0] s/\
 ∀ e g c a d,f [.slice e g c,I a] d->Bd (a<(i:Int)) (∃ j,Ax o j a i <| ∃ k,d.cell? (j.add (a.toNat*1))=some (U k)/\(0<=B7 (a+(b:Int))/\B7 (a+(b:Int))<=(c:Int))/\(0<=a/\a<=(((B7 (a+(b:Int))).toNat:Nat):Int))/\aH P 246 #[.slice (Q3 e c (a.toNat) 1) (((B7 (a+(b:Int))).toNat)-(a.toNat)) (c-(a.toNat)),Sl m b n,U k] d (fun u v=>∃ l,u=U l/\U7 P b f t e g c a l v d))
 (K (Sl e g c) d)
def No(P:aT)(q:OA)(r s:Nat)(K:VP)(t:OA)(j u:Nat)(v:OA)(k:Nat)(w:aW):Prop:=
 ∃ (e:LP) (l:LN),e [.slice q r s] w/\
 ∀ b a c d,e [.slice b a c] d->Bd ((a:Int)<(B7 ((j:Int)+(k:Int)))) (wpH P (bM 89 1 #[(0,U 0)]) (fun x y=>∃ n o p,x=Sl n o p/\wpH P (bZ #[89,89] 89 #[Sl b a c,Sl n o p]) (fun z m=>∃ f g i,z=Sl f g i/\e [.slice f g i] m/\l [.slice f g i] m<l [.slice b a c] d) y) d)
 (Fg P K t j u v k b a c d)
def St(P:aT)(C:OA)(D E:Nat)(m:OA)(b n:Nat)(o:OA)(c p:Nat)(h:aW)(K:VP):Prop:=
 ∃ (d:LP),(Bd ((b:Int)<(c:Int)) (d [.slice o c p,.slice m b n] h)
 (d [.slice m b n,.slice o c p] h))/\
 ∀ f g i j a k l,d [.slice f g i,.slice j a k] l->∃ (e:LP),(Bd ((a:Int)>=40) (aH P 197 #[Sl f g i,Sl j a k] l (fun F G=>∃ q r s,F=Sl q r s/\wpH P (bM 89 1 #[(0,U 1)]) (fun H L=>∃ t u v,H=Sl t u v/\e [.slice q r s,.slice t u v] L) G))
 (e [.slice f g i,.slice j a k] l))/\
 ∀ w x y z A M B,e [.slice w x y,.slice z A M] B->No P C D E K w x y z A B
def Jz a b c d e f g i j(hvc:St prog a b c d e f g i j h K):aH prog 255 #[Sl a b c,Sl d e f,Sl g i j] h K:=
 fnq func255 ⟨[(5,⟨[0],[],[N0],⟨([0]++Lrg 25 11),[]⟩⟩),(8,⟨[0,38],[],[N0,I 0],⟨([0,7,8,9,10]++Lrg 38 43),[]⟩⟩),(12,⟨[0,9,10],[],[N0,U 0,I 0],⟨([0,9,10]++Lrg 57 23),[]⟩⟩)],[(3,⟨[1,2],[],[N0,N0],⟨[1,2,11,12,13,14,15,16,17],[]⟩⟩),(5,⟨[1,2],[],[N0,N0],⟨[1,2,18,19,20,21,22,23,24],[]⟩⟩)],[],[],[]⟩ [] [246] hvc
def Ql(P:aT)(i:Int)(f:Int)(c:Int)(a:Int)(l:LP)(n:aW):Prop:=
 ∃ (j:LP) (m:LN),j [U (C4 (aF (bor .u64 (C4 (i*2^(min (C4 a).toNat 64))) (aV f (2^(min (C4 ((64:Int)-(C4 a))).toNat 64)))) (aV (C4 (c*2^(min (C4 a).toNat 64))) (2^(min ((32:Int)).toNat 64))))),U (C4 ((bor .u64 (C4 (i*2^(min (C4 a).toNat 64))) (aV f (2^(min (C4 ((64:Int)-(C4 a))).toNat 64))))-(C4 ((C4 (aF (bor .u64 (C4 (i*2^(min (C4 a).toNat 64))) (aV f (2^(min (C4 ((64:Int)-(C4 a))).toNat 64)))) (aV (C4 (c*2^(min (C4 a).toNat 64))) (2^(min ((32:Int)).toNat 64)))))*(aV (C4 (c*2^(min (C4 a).toNat 64))) (2^(min ((32:Int)).toNat 64)))))))] n/\
 ∀ b d e,j [U b,U d] e->∃ (k:LP),(Bd (b>=4294967296) (k [] e)
 (Bd ((C4 (b*(Vo .u64 (C4 (c*2^(min (C4 a).toNat 64))) (4294967295:Int))))>(C4 ((C4 ((4294967296:Int)*d))+(aV (C4 (f*2^(min (C4 a).toNat 64))) (2^(min ((32:Int)).toNat 64)))))) (k [] e)
 (l [U b] e)))/\
 ∀ g,k [] g->Bd ((C4 (d+(aV (C4 (c*2^(min (C4 a).toNat 64))) (2^(min ((32:Int)).toNat 64)))))>=4294967296) (l [U (C4 (b-1))] g)
 (j [U (C4 (b-1)),U (C4 (d+(aV (C4 (c*2^(min (C4 a).toNat 64))) (2^(min ((32:Int)).toNat 64)))))] g/\m [U (C4 (b-1)),U (C4 (d+(aV (C4 (c*2^(min (C4 a).toNat 64))) (2^(min ((32:Int)).toNat 64)))))] g<m [U b,U d] e)
def Qk(P:aT)(i:Int)(d:Int)(b:Int)(a:Int)(j:Int)(m:LP)(o:aW):Prop:=
 ∃ (k:LP) (n:LN),k [U (C4 ((C4 ((C4 ((C4 ((bor .u64 (C4 (i*2^(min (C4 a).toNat 64))) (aV d (2^(min (C4 ((64:Int)-(C4 a))).toNat 64))))*(4294967296:Int)))+(aV (C4 (d*2^(min (C4 a).toNat 64))) (2^(min ((32:Int)).toNat 64)))))-(C4 (j*(C4 (b*2^(min (C4 a).toNat 64)))))))-(C4 ((C4 (aF (C4 ((C4 ((C4 ((bor .u64 (C4 (i*2^(min (C4 a).toNat 64))) (aV d (2^(min (C4 ((64:Int)-(C4 a))).toNat 64))))*(4294967296:Int)))+(aV (C4 (d*2^(min (C4 a).toNat 64))) (2^(min ((32:Int)).toNat 64)))))-(C4 (j*(C4 (b*2^(min (C4 a).toNat 64))))))) (aV (C4 (b*2^(min (C4 a).toNat 64))) (2^(min ((32:Int)).toNat 64)))))*(aV (C4 (b*2^(min (C4 a).toNat 64))) (2^(min ((32:Int)).toNat 64))))))),U (C4 (aF (C4 ((C4 ((C4 ((bor .u64 (C4 (i*2^(min (C4 a).toNat 64))) (aV d (2^(min (C4 ((64:Int)-(C4 a))).toNat 64))))*(4294967296:Int)))+(aV (C4 (d*2^(min (C4 a).toNat 64))) (2^(min ((32:Int)).toNat 64)))))-(C4 (j*(C4 (b*2^(min (C4 a).toNat 64))))))) (aV (C4 (b*2^(min (C4 a).toNat 64))) (2^(min ((32:Int)).toNat 64)))))] o/\
 ∀ e c f,k [U e,U c] f->∃ (l:LP),(Bd (c>=4294967296) (l [] f)
 (Bd ((C4 (c*(Vo .u64 (C4 (b*2^(min (C4 a).toNat 64))) (4294967295:Int))))>(C4 ((C4 ((4294967296:Int)*e))+(Vo .u64 (C4 (d*2^(min (C4 a).toNat 64))) (4294967295:Int))))) (l [] f)
 (m [U c] f)))/\
 ∀ g,l [] g->Bd ((C4 (e+(aV (C4 (b*2^(min (C4 a).toNat 64))) (2^(min ((32:Int)).toNat 64)))))>=4294967296) (m [U (C4 (c-1))] g)
 (k [U (C4 (e+(aV (C4 (b*2^(min (C4 a).toNat 64))) (2^(min ((32:Int)).toNat 64))))),U (C4 (c-1))] g/\n [U (C4 (e+(aV (C4 (b*2^(min (C4 a).toNat 64))) (2^(min ((32:Int)).toNat 64))))),U (C4 (c-1))] g<n [U e,U c] f)
def Qm(P:aT)(f:Int)(b:Int)(c:Int)(K:VP)(a:Int)(d:Int)(e:Int)(g:aW):Prop:=
 Bd (C4 a<0) False
 (K (.tuple #[U (C4 ((C4 (d*(4294967296:Int)))+e)),U (aV (C4 ((C4 ((C4 ((C4 ((C4 ((C4 ((bor .u64 (C4 (f*2^(min (C4 a).toNat 64))) (aV b (2^(min (C4 ((64:Int)-(C4 a))).toNat 64))))*(4294967296:Int)))+(aV (C4 (b*2^(min (C4 a).toNat 64))) (2^(min ((32:Int)).toNat 64)))))-(C4 (d*(C4 (c*2^(min (C4 a).toNat 64)))))))*(4294967296:Int)))+(Vo .u64 (C4 (b*2^(min (C4 a).toNat 64))) (4294967295:Int))))-(C4 (e*(C4 (c*2^(min (C4 a).toNat 64))))))) (2^(min (C4 a).toNat 64)))]) g)
def Qn(P:aT)(c:Int)(d:Int)(a:Int)(K:VP)(b:Int)(e:Int)(j:aW):Prop:=
 Bd (aV (C4 (a*2^(min (C4 b).toNat 64))) (2^(min ((32:Int)).toNat 64))=0) False
 (∃ (f:LP),(Qk P c d a b e f j)/\
 ∀ g i,f [U g] i->Qm P c d a K b e g i)
def A2z(P:aT)(c:Int)(d:Int)(a:Int)(h:aW)(K:VP):Prop:=
 Br (a==0) (∃ (i:dT),h.cell? (⟨2,0,none⟩)=some (i)/\False)
 (Bd (a<=c) (∃ (j:dT),h.cell? (⟨3,0,none⟩)=some (j)/\False)
 (Br (c==0) (Bd (a=0) False
 (Bd (a=0) False
 (K (.tuple #[U (C4 (aF d a)),U (aL d a)]) h)))
 (aH P 258 #[U a] h (fun k l=>∃ b,k=I b/\Bd (C4 b<0) False
 (Bd (C4 b<0) False
 (Bd (C4 ((64:Int)-(C4 b))<0) False
 (Bd (C4 b<0) False
 (Bd (aV (C4 (a*2^(min (C4 b).toNat 64))) (2^(min ((32:Int)).toNat 64))=0) False
 (∃ (e:LP),(Ql P c d a b e l)/\
 ∀ f g,e [U f] g->Qn P c d a K b f g)))))))))
def A01 a b c(hvc:A2z prog a b c h K):aH prog 264 #[U a,U b,U c] h K:=
 fnq func264 ⟨[(17,⟨[15,16],[],[U 0,U 0],⟨([15,16]++Lrg 67 19),[]⟩⟩),(24,⟨[16,18],[],[U 0,U 0],⟨([16,18]++Lrg 102 19),[]⟩⟩)],[(18,⟨[],[],[],⟨(Lrg 67 12),[]⟩⟩),(21,⟨[15],[],[U 0],⟨([15,16]++Lrg 67 19),[]⟩⟩),(25,⟨[],[],[],⟨(Lrg 102 12),[]⟩⟩),(28,⟨[18],[],[U 0],⟨([16,18]++Lrg 102 19),[]⟩⟩)],[],[],[]⟩ [] [] hvc
def Ho(P:aT)(a:Int)(h:aW)(K:VP):Prop:=
 Br (a==0) (K (I 64) h)
 ((0<=aV (C4 ((Vo .u64 a (C4 (0-a)))*(285870213051353865:Int))) (2^(min ((58:Int)).toNat 64))/\aV (C4 ((Vo .u64 a (C4 (0-a)))*(285870213051353865:Int))) (2^(min ((58:Int)).toNat 64))<(64:Int))/\∃ b,h.cell? (dQ (⟨1,0,none⟩) ((aV (C4 ((Vo .u64 a (C4 (0-a)))*(285870213051353865:Int))) (2^(min ((58:Int)).toNat 64))).toNat*1))=some (Y b)/\K (I (B7 b)) h)
def Dr a(hvc:Ho prog a h K):aH prog 263 #[U a] h K:=
 fnq func263 an0 [] [] hvc
def Tr:ByteArray:={ data:=#[0,1,2,2,3,3,3,3,4,4,4,4,4,4,4,4,5,5,5,5,5,5,5,5,5,5,5,5,5,5,5,5,6,6,6,6,6,6,6,6,6,6,6,6,6,6,6,6,6,6,6,6,6,6,6,6,6,6,6,6,6,6,6,6,7,7,7,7,7,7,7,7,7,7,7,7,7,7,7,7,7,7,7,7,7,7,7,7,7,7,7,7,7,7,7,7,7,7,7,7,7,7,7,7,7,7,7,7,7,7,7,7,7,7,7,7,7,7,7,7,7,7,7,7,7,7,7,7,8,8,8,8,8,8,8,8,8,8,8,8,8,8,8,8,8,8,8,8,8,8,8,8,8,8,8,8,8,8,8,8,8,8,8,8,8,8,8,8,8,8,8,8,8,8,8,8,8,8,8,8,8,8,8,8,8,8,8,8,8,8,8,8,8,8,8,8,8,8,8,8,8,8,8,8,8,8,8,8,8,8,8,8,8,8,8,8,8,8,8,8,8,8,8,8,8,8,8,8,8,8,8,8,8,8,8,8,8,8,8,8,8,8,8,8,8,8,8,8,8,8,8,8,8,8,8,8] }
def A7o(P:aT)(c:Int)(h:aW)(K:VP):Prop:=
 ∃ (d:LP),(Bd (c>=4294967296) (d [U (aV c (2^(min ((32:Int)).toNat 64))),I 32] h)
 (d [U c,I 0] h))/\
 ∀ a g i,d [U a,I g] i->∃ (e:LP),(Bd (a>=65536) (e [U (aV a (2^(min ((16:Int)).toNat 64))),I (B7 (g+16))] i)
 (e [U a,I g] i))/\
 ∀ b j k,e [U b,I j] k->∃ (f:LP),(Bd (b>=256) (f [U (aV b (2^(min ((8:Int)).toNat 64))),I (B7 (j+8))] k)
 (f [U b,I j] k))/\
 ∀ l n o,f [U l,I n] o->∃ (m:UInt8),(0<=wu8 l/\((Tr:ByteArray))[(wu8 l).toNat]? = some m)/\K (I (B7 (n+(B7 ((m.toNat:Nat):Int))))) o
def A00 a(hvc:A7o prog a h K):aH prog 266 #[U a] h K:=
 fnq func266 { cuts:=[(4,⟨[0,2],[],[U 0,I 0],⟨[0,2,3,4,5,6],[]⟩⟩),(7,⟨[0,2],[],[U 0,I 0],⟨[0,2,7,8,9,10,11,12],[]⟩⟩),(10,⟨[0,2],[],[U 0,I 0],⟨[0,2,13,14,15,16,17,18],[]⟩⟩)] } [] [] hvc
def Vu:A9l prog 274 (fun a=>do
 let (x,y,c)<-dB "Add64" a
 pure (cJ ((x+y+c)%aN) ((x+y+c)/aN))):=⟨f274,func274,by kernel_rfl,by kernel_rfl,by kernel_rfl,by kernel_rfl⟩
def Vt:A9l prog 262 (fun a=>do
 let (x,y,c)<-dB "Sub64" a
 pure (cJ ((x+aN-y-c)%aN) (if x<y+c then 1 else 0))):=⟨f262,func262,by kernel_rfl,by kernel_rfl,by kernel_rfl,by kernel_rfl⟩
end
section
set_option maxRecDepth 100000
variable {h:aW} {K:VP}
def F6:ByteArray:={ data:=#[48,48,48,49,48,50,48,51,48,52,48,53,48,54,48,55,48,56,48,57,49,48,49,49,49,50,49,51,49,52,49,53,49,54,49,55,49,56,49,57,50,48,50,49,50,50,50,51,50,52,50,53,50,54,50,55,50,56,50,57,51,48,51,49,51,50,51,51,51,52,51,53,51,54,51,55,51,56,51,57,52,48,52,49,52,50,52,51,52,52,52,53,52,54,52,55,52,56,52,57,53,48,53,49,53,50,53,51,53,52,53,53,53,54,53,55,53,56,53,57,54,48,54,49,54,50,54,51,54,52,54,53,54,54,54,55,54,56,54,57,55,48,55,49,55,50,55,51,55,52,55,53,55,54,55,55,55,56,55,57,56,48,56,49,56,50,56,51,56,52,56,53,56,54,56,55,56,56,56,57,57,48,57,49,57,50,57,51,57,52,57,53,57,54,57,55,57,56,57,57] }
def Am(P:aT)(c:OA)(d:Nat)(K:VP)(e:Int)(f:Int)(a:aW):Prop:=
 Bd (e>0) (∃ b,Ax c b (0:Int) d<|wpH P (aQ 5 (Pt (b.add (((0:Int)).toNat*1))) (Y (wu8 (G5 ((48:Int)+f))))) (fun _ g=>K (T0) g) a)
 (K (T0) a)
def An(P:aT)(c:OA)(d:Nat)(K:VP)(a:Int)(b:Int)(f:aW):Prop:=
 ∃ (e:LP),(Bd (a>=2) (∃ (g:UInt8),(0<=G5 ((G5 ((aL b (100:Int))*(2:Int)))+1)/\((F6:ByteArray))[(G5 ((G5 ((aL b (100:Int))*(2:Int)))+1)).toNat]? = some g)/\∃ (i:UInt8),(0<=G5 ((aL b (100:Int))*(2:Int))/\((F6:ByteArray))[(G5 ((aL b (100:Int))*(2:Int))).toNat]? = some i)/\∃ j,Ax c j (B7 (a-1)) d<|wpH P (aQ 5 (Pt (j.add ((B7 (a-1)).toNat*1))) (Y ((g.toNat:Nat):Int))) (fun _ o=>∃ k,Ax c k (B7 (a-2)) d<|wpH P (aQ 5 (Pt (k.add ((B7 (a-2)).toNat*1))) (Y ((i.toNat:Nat):Int))) (fun _ p=>e [I (B7 (a-2)),U32 (G5 (aF b (100:Int)))] p) o) f)
 (e [I a,U32 b] f))/\
 ∀ l m n,e [I l,U32 m] n->Am P c d K l m n
def Nq(P:aT)(d:OA)(c a4:Nat)(O:Int)(h:aW)(K:VP):Prop:=
 ∃ (f:LP) (i:LN),f [U O,I (c:Int)] h/\
 ∀ b a e,f [U b,I a] e->Bd (a>=8) (∃ (j:UInt8),(0<=G5 ((G5 ((aL (aL (G5 (aL b (100000000:Int))) (10000:Int)) (100:Int))*(2:Int)))+1)/\((F6:ByteArray))[(G5 ((G5 ((aL (aL (G5 (aL b (100000000:Int))) (10000:Int)) (100:Int))*(2:Int)))+1)).toNat]? = some j)/\∃ (k:UInt8),(0<=G5 ((aL (aL (G5 (aL b (100000000:Int))) (10000:Int)) (100:Int))*(2:Int))/\((F6:ByteArray))[(G5 ((aL (aL (G5 (aL b (100000000:Int))) (10000:Int)) (100:Int))*(2:Int))).toNat]? = some k)/\∃ w,Ax d w (B7 (a-1)) c<|wpH P (aQ 5 (Pt (w.add ((B7 (a-1)).toNat*1))) (Y ((j.toNat:Nat):Int))) (fun _ Q=>∃ x,Ax d x (B7 (a-2)) c<|wpH P (aQ 5 (Pt (x.add ((B7 (a-2)).toNat*1))) (Y ((k.toNat:Nat):Int))) (fun _ R=>∃ (l:UInt8),(0<=G5 ((G5 ((G5 (aF (aL (G5 (aL b (100000000:Int))) (10000:Int)) (100:Int)))*(2:Int)))+1)/\((F6:ByteArray))[(G5 ((G5 ((G5 (aF (aL (G5 (aL b (100000000:Int))) (10000:Int)) (100:Int)))*(2:Int)))+1)).toNat]? = some l)/\∃ (m:UInt8),(0<=G5 ((G5 (aF (aL (G5 (aL b (100000000:Int))) (10000:Int)) (100:Int)))*(2:Int))/\((F6:ByteArray))[(G5 ((G5 (aF (aL (G5 (aL b (100000000:Int))) (10000:Int)) (100:Int)))*(2:Int))).toNat]? = some m)/\∃ y,Ax d y (B7 (a-3)) c<|wpH P (aQ 5 (Pt (y.add ((B7 (a-3)).toNat*1))) (Y ((l.toNat:Nat):Int))) (fun _ S=>∃ z,Ax d z (B7 (a-4)) c<|wpH P (aQ 5 (Pt (z.add ((B7 (a-4)).toNat*1))) (Y ((m.toNat:Nat):Int))) (fun _ T=>∃ (n:UInt8),(0<=G5 ((G5 ((aL (G5 (aF (G5 (aL b (100000000:Int))) (10000:Int))) (100:Int))*(2:Int)))+1)/\((F6:ByteArray))[(G5 ((G5 ((aL (G5 (aF (G5 (aL b (100000000:Int))) (10000:Int))) (100:Int))*(2:Int)))+1)).toNat]? = some n)/\∃ (o:UInt8),(0<=G5 ((aL (G5 (aF (G5 (aL b (100000000:Int))) (10000:Int))) (100:Int))*(2:Int))/\((F6:ByteArray))[(G5 ((aL (G5 (aF (G5 (aL b (100000000:Int))) (10000:Int))) (100:Int))*(2:Int))).toNat]? = some o)/\∃ A,Ax d A (B7 (a-5)) c<|wpH P (aQ 5 (Pt (A.add ((B7 (a-5)).toNat*1))) (Y ((n.toNat:Nat):Int))) (fun _ V=>∃ B,Ax d B (B7 (a-6)) c<|wpH P (aQ 5 (Pt (B.add ((B7 (a-6)).toNat*1))) (Y ((o.toNat:Nat):Int))) (fun _ W=>∃ (p:UInt8),(0<=G5 ((G5 ((G5 (aF (G5 (aF (G5 (aL b (100000000:Int))) (10000:Int))) (100:Int)))*(2:Int)))+1)/\((F6:ByteArray))[(G5 ((G5 ((G5 (aF (G5 (aF (G5 (aL b (100000000:Int))) (10000:Int))) (100:Int)))*(2:Int)))+1)).toNat]? = some p)/\∃ (q:UInt8),(0<=G5 ((G5 (aF (G5 (aF (G5 (aL b (100000000:Int))) (10000:Int))) (100:Int)))*(2:Int))/\((F6:ByteArray))[(G5 ((G5 (aF (G5 (aF (G5 (aL b (100000000:Int))) (10000:Int))) (100:Int)))*(2:Int))).toNat]? = some q)/\∃ C,Ax d C (B7 (a-7)) c<|wpH P (aQ 5 (Pt (C.add ((B7 (a-7)).toNat*1))) (Y ((p.toNat:Nat):Int))) (fun _ X=>∃ D,Ax d D (B7 (a-8)) c<|wpH P (aQ 5 (Pt (D.add ((B7 (a-8)).toNat*1))) (Y ((q.toNat:Nat):Int))) (fun _ v=>f [U (C4 (aF b (100000000:Int))),I (B7 (a-8))] v/\i [U (C4 (aF b (100000000:Int))),I (B7 (a-8))] v<i [U b,I a] e) X) W) V) T) S) R) Q) e)
 (∃ (g:LP),(Bd (a>=4) (∃ (r:UInt8),(0<=G5 ((G5 ((aL (aL (G5 b) (10000:Int)) (100:Int))*(2:Int)))+1)/\((F6:ByteArray))[(G5 ((G5 ((aL (aL (G5 b) (10000:Int)) (100:Int))*(2:Int)))+1)).toNat]? = some r)/\∃ (s:UInt8),(0<=G5 ((aL (aL (G5 b) (10000:Int)) (100:Int))*(2:Int))/\((F6:ByteArray))[(G5 ((aL (aL (G5 b) (10000:Int)) (100:Int))*(2:Int))).toNat]? = some s)/\∃ E,Ax d E (B7 (a-1)) c<|wpH P (aQ 5 (Pt (E.add ((B7 (a-1)).toNat*1))) (Y ((r.toNat:Nat):Int))) (fun _ a0=>∃ F,Ax d F (B7 (a-2)) c<|wpH P (aQ 5 (Pt (F.add ((B7 (a-2)).toNat*1))) (Y ((s.toNat:Nat):Int))) (fun _ a1=>∃ (t:UInt8),(0<=G5 ((G5 ((G5 (aF (aL (G5 b) (10000:Int)) (100:Int)))*(2:Int)))+1)/\((F6:ByteArray))[(G5 ((G5 ((G5 (aF (aL (G5 b) (10000:Int)) (100:Int)))*(2:Int)))+1)).toNat]? = some t)/\∃ (u:UInt8),(0<=G5 ((G5 (aF (aL (G5 b) (10000:Int)) (100:Int)))*(2:Int))/\((F6:ByteArray))[(G5 ((G5 (aF (aL (G5 b) (10000:Int)) (100:Int)))*(2:Int))).toNat]? = some u)/\∃ G,Ax d G (B7 (a-3)) c<|wpH P (aQ 5 (Pt (G.add ((B7 (a-3)).toNat*1))) (Y ((t.toNat:Nat):Int))) (fun _ a2=>∃ H,Ax d H (B7 (a-4)) c<|wpH P (aQ 5 (Pt (H.add ((B7 (a-4)).toNat*1))) (Y ((u.toNat:Nat):Int))) (fun _ a3=>g [I (B7 (a-4)),U32 (G5 (aF (G5 b) (10000:Int)))] a3) a2) a1) a0) e)
 (g [I a,U32 (G5 b)] e))/\
 ∀ L M N,g [I L,U32 M] N->An P d c K L M N)
def Hm a b c d(hvc:Nq prog a b c d h K):aH prog 241 #[Sl a b c,U d] h K:=
 fnq func241 ⟨[(1,⟨[1,4],[],[U 0,I 0],⟨([1]++Lrg 4 8++Lrg 19 77),[]⟩⟩)],[(20,⟨[4,12],[],[I 0,.int .u32 0],⟨([4,12,13,14,15]++Lrg 98 40),[]⟩⟩),(25,⟨[4,12],[],[I 0,.int .u32 0],⟨([4,12,16]++Lrg 138 22),[]⟩⟩)],[],[],[]⟩ [] [] hvc
def Ms:ByteArray:={ data:=#[48,49,50,51,52,53,54,55,56,57,97,98,99,100,101,102,103,104,105,106,107,108,109,110,111,112,113,114,115,116,117,118,119,120,121,122] }
def A7l(P:aT)(a:Int)(h:aW)(K:VP):Prop:=
 Bd (a<10) ((0<=B7 (a+1)/\B7 (a+1)<=((((Ms:ByteArray)).size:Nat):Int))/\(0<=a/\a<=(((B7 (a+1)).toNat:Nat):Int))/\K (.string (((Ms:ByteArray)).extract (a.toNat) ((B7 (a+1)).toNat))) h)
 ((0<=B7 ((B7 (a*(2:Int)))+2)/\B7 ((B7 (a*(2:Int)))+2)<=((((F6:ByteArray)).size:Nat):Int))/\(0<=B7 (a*(2:Int))/\B7 (a*(2:Int))<=(((B7 ((B7 (a*(2:Int)))+2)).toNat:Nat):Int))/\K (.string (((F6:ByteArray)).extract ((B7 (a*(2:Int))).toNat) ((B7 ((B7 (a*(2:Int)))+2)).toNat))) h)
def Zx a(hvc:A7l prog a h K):aH prog 239 #[I a] h K:=
 fnq func239 an0 [] [] hvc
end
section
set_option maxRecDepth 100000
variable {h:aW} {K:VP}
def A9i(P:aT)(b:Bool)(c:OA)(d e:Nat)(i:Bool)(j:OA)(k l:Nat)(h:aW)(K:VP):Prop:=
 aH P 122 #[Zv b c d e] h (fun f g=>∃ a,f=I a/\K (I a) g)
def A22 a b c d e f g i(hvc:A9i prog a b c d e f g i h K):aH prog 135 #[Qv a b c d e f g i] h K:=
 fnq func135 an0 [1] [] hvc
def B04(P:aT)(f:Bool)(g:OA)(i j:Nat)(k:Bool)(l:OA)(m n:Nat)(h:aW)(K:VP):Prop:=
 aH P 125 #[Zv f g i j] h (fun o a=>∃ b c d e,o=Zv b c d e/\h.le a/\K (Qv b c d e k l m n) a)
def A4u a b c d e f g i(hvc:B04 prog a b c d e f g i h K):aH prog 140 #[Qv a b c d e f g i] h K:=
 fnq func140 { orders:=[(1,([0,1,3,4,2,5,6],[]))] } [1,2] [] hvc
def B07(P:aT)(r:Bool)(s:OA)(t u:Nat)(e:Bool)(f:OA)(g i:Nat)(v:Bool)(w:OA)(x y:Nat)(a:Bool)(b:OA)(c d:Nat)(h:aW)(K:VP):Prop:=
 ∃ (A:LP),(aH P 121 #[Zv e f g i] h (fun i5 b0=>∃ (a3:Bool),i5= .bool a3/\Br a3 (aH P 121 #[Zv a b c d] b0 (fun i6 i7=>∃ (a4:Bool),i6= .bool a4/\A [.bool a4] i7))
 (A [.bool false] b0)))/\
 ∀ b9 R,A [.bool b9] R->Br b9 (aH P 138 #[Zv r s t u,Zv v w x y] R (fun i8 i9=>∃ c0 c1 c2 c3,i8=Zv c0 c1 c2 c3/\K (Qv c0 c1 c2 c3 false none 0 0) i9))
 (∃ (a5:LP),(aH P 121 #[Zv e f g i] R (fun j0 j1=>∃ (a6:Bool),j0= .bool a6/\a5 [.bool a6] j1))/\
 ∀ c4 z,a5 [.bool c4] z->Br c4 (aH P 137 #[Zv r s t u,Zv a b c d] z (fun j2 B=>∃ c5 c6 c7 c8,j2=Zv c5 c6 c7 c8/\z.le B/\aH P 138 #[Zv c5 c6 c7 c8,Zv v w x y] B (fun j3 b1=>∃ c9 d0 d1 d2,j3=Zv c9 d0 d1 d2/\B.le b1/\K (Qv c9 d0 d1 d2 a b c d) b1)))
 (aH P 121 #[Zv a b c d] z (fun j4 C=>∃ (a7:Bool),j4= .bool a7/\Br a7 (aH P 137 #[Zv v w x y,Zv e f g i] C (fun j5 D=>∃ d3 d4 d5 d6,j5=Zv d3 d4 d5 d6/\C.le D/\aH P 138 #[Zv d3 d4 d5 d6,Zv r s t u] D (fun j6 b2=>∃ d7 d8 d9 e0,j6=Zv d7 d8 d9 e0/\D.le b2/\K (Qv d7 d8 d9 e0 e f g i) b2)))
 (aH P 117 #[Zv e f g i,Zv a b c d] C (fun j7 b3=>∃ j k l m,j7=Zv j k l m/\aH P 139 #[Zv a b c d,Zv j k l m] b3 (fun j8 E=>∃ e1 e2 e3 e4,j8=Zv e1 e2 e3 e4/\b3.le E/\aH P 139 #[Zv e f g i,Zv j k l m] E (fun j9 F=>∃ S T V W,j9=Zv S T V W/\E.le F/\aH P 137 #[Zv r s t u,Zv e1 e2 e3 e4] F (fun k0 G=>∃ e5 e6 e7 e8,k0=Zv e5 e6 e7 e8/\F.le G/\aH P 137 #[Zv v w x y,Zv S T V W] G (fun k1 H=>∃ e9 f0 f1 f2,k1=Zv e9 f0 f1 f2/\G.le H/\aH P 138 #[Zv e5 e6 e7 e8,Zv e9 f0 f1 f2] H (fun k2 b4=>∃ n o p q,k2=Zv n o p q/\H.le b4/\aH P 121 #[Zv n o p q] b4 (fun k3 b5=>∃ (a8:Bool),k3= .bool a8/\Br a8 (K (Qv false none 0 0 false none 0 0) b5)
 (aH P 118 #[Zv j k l m] b5 (fun k4 L=>∃ (a9:Bool),k4= .bool a9/\Br a9 (aH P 137 #[Zv e f g i,Zv a b c d] L (fun k5 M=>∃ f3 f4 f5 f6,k5=Zv f3 f4 f5 f6/\L.le M/\aH P 123 #[Zv n o p q,Zv f3 f4 f5 f6] M (fun k6 b6=>∃ f7 f8 f9 g0 g1 g2 g3 g4,k6=Qv f7 f8 f9 g0 g1 g2 g3 g4/\M.le b6/\K (Qv f7 f8 f9 g0 g1 g2 g3 g4) b6)))
 (aH P 117 #[Zv n o p q,Zv j k l m] L (fun k7 b7=>∃ X a0 a1 a2,k7=Zv X a0 a1 a2/\aH P 139 #[Zv n o p q,Zv X a0 a1 a2] b7 (fun k8 N=>∃ g5 g6 g7 g8,k8=Zv g5 g6 g7 g8/\b7.le N/\aH P 139 #[Zv a b c d,Zv X a0 a1 a2] N (fun k9 O=>∃ g9 h0 h1 h2,k9=Zv g9 h0 h1 h2/\N.le O/\aH P 137 #[Zv S T V W,Zv g9 h0 h1 h2] O (fun l0 Q=>∃ h3 h4 h5 h6,l0=Zv h3 h4 h5 h6/\O.le Q/\aH P 123 #[Zv g5 g6 g7 g8,Zv h3 h4 h5 h6] Q (fun l1 b8=>∃ h7 h8 h9 i0 i1 i2 i3 i4,l1=Qv h7 h8 h9 i0 i1 i2 i3 i4/\Q.le b8/\K (Qv h7 h8 h9 i0 i1 i2 i3 i4) b8)))))))))))))))))))
def A4x a b c d e f g i j k l m n o p q(hvc:B07 prog a b c d e f g i j k l m n o p q h K):aH prog 72 #[Qv a b c d e f g i,Qv j k l m n o p q] h K:=
 fnq func72 ⟨[],[(2,⟨[10],[],[.bool false],⟨(Lrg 10 9),[]⟩⟩),(4,⟨[25],[],[.bool false],⟨[25,26,27,28],[]⟩⟩)],[(4,([0,1,2,3,5,6,8,9,4,7,10,11],[])),(6,([0,1,2,3,5,6,8,9,4,7,10,11],[])),(8,([0,1,2,4,5,6,8,9,3,7,10,11],[])),(9,([0,1,2,4,5,6,9,3,7,8,10],[])),(15,([0,1,3,4,5,6,2,7,8,9,10],[]))],[],[]⟩ (Lrg 2 8) [] hvc
def B05(P:aT)(a:Bool)(b:OA)(c d:Nat)(t:Bool)(u:OA)(v w:Nat)(e:Bool)(f:OA)(g i:Nat)(x:Bool)(y:OA)(z A:Nat)(h:aW)(K:VP):Prop:=
 ∃ (k:LP),(aH P 121 #[Zv a b c d] h (fun d5 a2=>∃ (B:Bool),d5= .bool B/\Br B (k [.bool true] a2)
 (aH P 121 #[Zv e f g i] a2 (fun d6 d7=>∃ (C:Bool),d6= .bool C/\k [.bool C] d7))))/\
 ∀ a5 s,k [.bool a5] s->Br a5 (K (Qv false none 0 0 false none 0 0) s)
 (∃ (l:LP),(aH P 121 #[Zv t u v w] s (fun d8 a3=>∃ (D:Bool),d8= .bool D/\Br D (aH P 121 #[Zv x y z A] a3 (fun d9 e0=>∃ (E:Bool),d9= .bool E/\l [.bool E] e0))
 (l [.bool false] a3)))/\
 ∀ a6 j,l [.bool a6] j->Br a6 (aH P 137 #[Zv a b c d,Zv e f g i] j (fun e1 e2=>∃ a7 a8 a9 b0,e1=Zv a7 a8 a9 b0/\K (Qv a7 a8 a9 b0 false none 0 0) e2))
 (aH P 124 #[Qv e f g i x y z A] j (fun e3 m=>∃ b1 b2 b3 b4,e3=Zv b1 b2 b3 b4/\j.le m/\aH P 147 #[Zv a b c d,Zv b1 b2 b3 b4] m (fun e4 n=>∃ (F:Bool) (G:OA) (H L:Nat) (M:Bool) (N:OA) (O Q:Nat),e4= .tuple #[Zv F G H L,Zv M N O Q]/\m.le n/\aH P 124 #[Qv a b c d t u v w] n (fun e5 o=>∃ b5 b6 b7 b8,e5=Zv b5 b6 b7 b8/\n.le o/\aH P 147 #[Zv e f g i,Zv b5 b6 b7 b8] o (fun e6 p=>∃ (R:Bool) (S:OA) (T V:Nat) (W:Bool) (X:OA) (a0 a1:Nat),e6= .tuple #[Zv R S T V,Zv W X a0 a1]/\o.le p/\aH P 137 #[Zv F G H L,Zv R S T V] p (fun e7 q=>∃ b9 c0 c1 c2,e7=Zv b9 c0 c1 c2/\p.le q/\aH P 137 #[Zv W X a0 a1,Zv M N O Q] q (fun e8 r=>∃ c3 c4 c5 c6,e8=Zv c3 c4 c5 c6/\q.le r/\aH P 123 #[Zv b9 c0 c1 c2,Zv c3 c4 c5 c6] r (fun e9 a4=>∃ c7 c8 c9 d0 d1 d2 d3 d4,e9=Qv c7 c8 c9 d0 d1 d2 d3 d4/\r.le a4/\K (Qv c7 c8 c9 d0 d1 d2 d3 d4) a4)))))))))
def A4v a b c d e f g i j k l m n o p q(hvc:B05 prog a b c d e f g i j k l m n o p q h K):aH prog 79 #[Qv a b c d e f g i,Qv j k l m n o p q] h K:=
 fnq func79 ⟨[],[(2,⟨[16],[],[.bool false],⟨(Lrg 9 8),[]⟩⟩),(4,⟨[25],[],[.bool false],⟨(Lrg 18 8),[]⟩⟩)],[(5,([0,1,2,8,9,3,4,5,6,7,10,11],[])),(6,([0,1,2,8,9,3,4,5,6,7,10,11],[])),(7,([0,1,3,4,2,5,6,7],[]))],[],[]⟩ [2,3,4,5,6,7,8] [] hvc
def B06(P:aT)(t:Bool)(u:OA)(v w:Nat)(x:Bool)(y:OA)(z A:Nat)(B:Bool)(C:OA)(D E:Nat)(F:Bool)(G:OA)(H L:Nat)(h:aW)(K:VP):Prop:=
 aH P 62 #[Qv B C D E F G H L] h (fun M a=>∃ c d e f g i j k,M=Qv c d e f g i j k/\h.le a/\aH P 79 #[Qv t u v w x y z A,Qv c d e f g i j k] a (fun N b=>∃ l m n o p q r s,N=Qv l m n o p q r s/\a.le b/\K (Qv l m n o p q r s) b))
def A4w a b c d e f g i j k l m n o p q(hvc:B06 prog a b c d e f g i j k l m n o p q h K):aH prog 67 #[Qv a b c d e f g i,Qv j k l m n o p q] h K:=
 fnq func67 an0 [2,3,4] [] hvc
end
section
set_option maxRecDepth 100000
variable {h:aW} {K:VP}
def By(P:aT)(E:LP)(o:LN)(d:OA)(b p:Nat)(q:OA)(r s:Nat)(t:aW):Prop:=
 ∃ (f:LP) (u:LN),f [U 0,I (B7 ((b:Int)-1))] t/\
 ∀ e a c,f [U e,I a] c->Bd (a>=0) (∃ y,Ax d y a b <| ∃ z,c.cell? (y.add (a.toNat*1))=some (U z)/\aH P 264 #[U e,U z,U 10000000000000000000] c (fun F G=>∃ (v:Int) (g:Int),F= .tuple #[U v,U g]/\∃ A,Ax d A a b<|wpH P (aQ 230 (Pt (A.add (a.toNat*1))) (U v)) (fun _ w=>f [U g,I (B7 (a-1))] w/\u [U g,I (B7 (a-1))] w<u [U e,I a] c) G))
 (aH P 221 #[Sl d b p] c (fun H L=>∃ i j k,H=Sl i j k/\wpH P (bM 89 1 #[(0,U e)]) (fun M N=>∃ B C D,M=Sl B C D/\wpH P (bZ #[89,89] 89 #[Sl q r s,Sl B C D]) (fun O x=>∃ l m n,O=Sl l m n/\E [.slice i j k,.slice l m n] x/\o [.slice i j k,.slice l m n] x<o [.slice d b p,.slice q r s] t) N) L))
def Ak(P:aT)(D:LP)(p:LN)(q:OA)(r s:Nat)(E:Bool)(f:Int)(F:OA)(t G:Nat)(H:Int)(L:aW)(M:aW):Prop:=
 ∃ (g:LP) (u:LN),g [.slice q r s,I 0] M/\
 ∀ b c d a e,g [.slice b c d,I a] e->Bd (a<(B7 (H-(t:Int)))) (wpH P (bM 166 1 #[(0,Y (48:Int))]) (fun N O=>∃ x y z,N=Sl x y z/\wpH P (bZ #[166,166] 166 #[Sl b c d,Sl x y z]) (fun Q w=>∃ i j k,Q=Sl i j k/\g [.slice i j k,I (B7 (a+1))] w/\u [.slice i j k,I (B7 (a+1))] w<u [.slice b c d,I a] e) O) e)
 (∃ (v:LP),(wpH P (bZ #[166,166] 166 #[Sl b c d,Sl F t G]) (fun R S=>∃ A B C,R=Sl A B C/\v [.slice A B C] S) e)/\
 ∀ l m n o,v [.slice l m n] o->D [.slice l m n,.bool false,I (B7 (f-1))] o/\p [.slice l m n,.bool false,I (B7 (f-1))] o<p [.slice q r s,.bool E,I f] L)
def Aj(P:aT)(p:Int)(K:VP)(q:OA)(r s:Nat)(t:aW):Prop:=
 ∃ (f:LP) (k:LN),f [.slice q r s,I 0] t/\
 ∀ b c d a e,f [.slice b c d,I a] e->Bd (a<p) (wpH P (bM 166 1 #[(0,Y (48:Int))]) (fun u v=>∃ m n o,u=Sl m n o/\wpH P (bZ #[166,166] 166 #[Sl b c d,Sl m n o]) (fun w l=>∃ g i j,w=Sl g i j/\f [.slice g i j,I (B7 (a+1))] l/\k [.slice g i j,I (B7 (a+1))] l<k [.slice b c d,I a] e) v) e)
 (K (Sl b c d) e)
def Al(P:aT)(t:OA)(u v:Nat)(i:Int)(K:VP)(w:OA)(l:Nat)(x:bW)(y:aW):Prop:=
 ∃ (j:LP) (z:LN),j [.slice t u v,.bool true,I (B7 ((l:Int)-1))] y/\
 ∀ d e f g a b,j [.slice d e f,.bool g,I a] b->Bd (a>=0) ((0<=(0:Int)/\(0:Int)<=(20:Int))/\∃ n,Ax w n a l <| ∃ o,b.cell? (n.add (a.toNat*1))=some (U o)/\aH P 237 #[.slice (Q3 (some x) 20 0 1) ((((0:Int)).toNat)-0) (20-0),U o,I 10] b (fun A m=>∃ p c q,A=Sl p c q/\∃ (k:LP),(Br g (k [I (if (B7 (i-(B7 ((19:Int)*a))))>(c:Int) then B7 (i-(B7 ((19:Int)*a))) else (c:Int))] m)
 (k [I 19] m))/\
 ∀ r s,k [I r] s->Ak P j z d e f g a p c q r b s))
 (Br g (Aj P i K d e f b)
 (K (Sl d e f) b))
def Jo(P:aT)(k:OA)(l m:Nat)(n:Int)(K:VP)(o:OA)(p q:Nat)(r:aW):Prop:=
 ∃ (a:LP) (s:LN),a [.slice o p q,N0] r/\
 ∀ g b i c d j e,a [.slice g b i,.slice c d j] e->Bd ((b:Int)>0) (By P a s g b i c d j e)
 (wpH P (Instr.alloc 311 true (T0)) (fun t u=>∃ (f:bW),t=Pt f/\Al P k l m n K c d f u) e)
def Np(P:aT)(d:OA)(e f:Nat)(g:OA)(i j:Nat)(k:Int)(h:aW)(K:VP):Prop:=
 aH P 229 #[Sl g i j] h (fun l m=>∃ a b c,l=Sl a b c/\Jo P d e f k K a b c m)
def Hl a b c d e f g(hvc:Np prog a b c d e f g h K):aH prog 267 #[Sl a b c,Sl d e f,I g] h K:=
 fnq func267 ⟨[(3,⟨[7,8],[],[N0,N0],⟨([7,8,9,10]++Lrg 18 28),[]⟩⟩),(6,⟨[9,10],[],[U 0,I 0],⟨([9,10]++Lrg 24 16),[]⟩⟩),(14,⟨[0,12,13],[],[N0,.bool false,I 0],⟨([0,12,13,14,15]++Lrg 49 31),[]⟩⟩),(21,⟨[0,71],[],[N0,I 0],⟨[0,71,72,73,74,75,76],[]⟩⟩),(28,⟨[0,82],[],[N0,I 0],⟨[0,82,83,84,85,86,87],[]⟩⟩)],[(20,⟨[15],[],[I 0],⟨([15]++Lrg 59 8),[]⟩⟩),(25,⟨[0],[],[N0],⟨[0,77,78,79],[]⟩⟩)],[],[],[]⟩ [] [237] hvc
end
def ndg(x:Nat):Nat:=x*78913/262144
def A2m:∀ x,x<65->2^x<=10^(ndg x+1)/\(ndg x=0\/10^(ndg x-1)<=2^(x-1))/\ndg x<=19:=dc
def Pu{n k:Nat}(h1:10^k<=n)(h2:n<10^(k+1)):(dd n).length=k+1:=by
 have a:=(L4 (n:=n) (k:=k+1)).2 h2
 have b:¬ (dd n).length<=k:=fun e=>by have:=L4.1 e;omega
 omega
def A6z{d:Nat}(h0:d≠0)(h:d<2^64):(dd d).length=ndg (L8 d)+(if 10^ndg (L8 d)<=d then 1 else 0):=by
 have i:=Bq h
 obtain ⟨c,g⟩:=X3 h0
 obtain ⟨e,a,j⟩:=A2m (L8 d) o
 split
 ·rename_i b
  exact Pu b o
 ·rename_i b
  rcases a with a|a
  ·grind
  ·obtain ⟨k,hk⟩:∃ k,ndg (L8 d)=k+1:=by
    by_cases l:ndg (L8 d)=0
    ·grind
    ·exact ⟨ndg (L8 d)-1,o⟩
   rw [hk] at b a ⊢
   rw [Nat.add_sub_cancel] at a
   exact Pu o o
def A44(w n:Nat):pad (w+2) n=pad w (n/100)++[dch (n/10%10),dch (n%10)]:=by
 rw [Hr,Hr,Nat.div_div_eq_div_mul];simp
def Xn(n:Nat)(h:n=0):pad 0 n=[]:=by subst h;simp [pad,G0]
abbrev b64:Int:=18446744073709551616
abbrev Mw(h:aW)(A:Option bW)(len:Nat)(n:Int):Prop:=Mag .u64 b64 h A len n
structure Win (k:dF) (h g:aW) (b:Nat) (e:cP) (A:Option bW) (pre:List dT) (xs:List Int) (post:List dT):Prop where
 free:g b=none
 eq:h=g.put b (.cells (pre++xs.map (bX k)++post).toArray e)
 at_:xs=[]\/A=some ⟨b,pre.length,none⟩
section
variable {k:dF} {h g:aW} {b:Nat} {e:cP} {A:Option bW} {pre post:List dT} {xs:List Int}
def Win.le(w:Win k h g b e A pre xs post):g.le h:=by rw [w.eq];exact Heap.le_put _ w.free
def Win.sl(w:Win k h g b e A pre xs post):SlI k h A xs:=by
 rcases w.at_ with rfl|a
 ·exact SlI.nil
 ·right
  refine ⟨_,a,fun i v c=>?_⟩
  rw [w.eq,G8,D5]
  grind
def Win.store{P:aT}{t:cP}(one:P.cellsOf t=1/\(P.info? t).isSome=true)(w:Win k h g b e A pre xs post){a:bW}(ha:A=some a){i v:Int}(h0:0<=i)(h1:i<xs.length){K:Unit->aW->Prop}
 (x:∀ h',Win k h' g b e A pre (xs.set i.toNat v) post->K () h'):wpH P (aQ t (.pointer (some (dQ a (i.toNat*1)))) (.int k v)) K h:=by
 have c:A=some ⟨b,pre.length,none⟩:=by
  rcases w.at_ with rfl|c
  ·grind
  ·exact c
 rw [ha] at c
 cases c
 rw [w.eq,G8,Nat.mul_one]
 refine Ed one.1 one.2 rfl rfl gz0 ?_
 refine x _ ⟨w.free,?_,.inr ha⟩
 simp_all
def Win.storeN{P:aT}{t:cP}(one:P.cellsOf t=1/\(P.info? t).isSome=true)(w:Win k h g b e A pre xs post){a:bW}(ha:A=some a){i:Nat}{v:Int}(h1:i<xs.length){K:Unit->aW->Prop}
 (x:∀ h',Win k h' g b e A pre (xs.set i v) post->K () h'):wpH P (aQ t (.pointer (some (dQ a (i*1)))) (.int k v)) K h:=by
 have:=w.store one ha (i:=(i:Int)) (v:=v) (K:=K) o o (by assumption)
 assumption
def Win.call{P:aT}{f:FuncId}{args:Array dT}(w:Win k h g b e A pre xs post){K:VP}(x:aH P f args g (fun r h0=>∀ h',Win k h' h0 b e A pre xs post->K r h')):aH P f args h K:=by
 rw [w.eq]
 exact FCall.frame w.free x fun r h0 a c=>c _ ⟨a,rfl,w.at_⟩
def Win.blk(k:dF)(e:cP){g:aW}{b:Nat}(hb:g b=none)(zs:List Int):Win k (Go.Proofs.YtdphgbjaijlckaaGreatDoor.blk k e g b zs) g b e (some ⟨b,0,none⟩) [] zs []:=
 ⟨hb,by simp [Go.Proofs.YtdphgbjaijlckaaGreatDoor.blk],.inr rfl⟩
def Win.sub(w:Win k h g b e A pre xs post){l m c:Nat}(hl:l<=m)(hm:m<=xs.length)(hc:xs.length<=c):
 Win k h g b e (Q3 A c l 1) (pre++(xs.take l).map (bX k)) ((xs.drop l).take (m-l)) ((xs.drop m).map (bX k)++post):=by
 refine ⟨w.free,?_,?_⟩
 ·rw [w.eq]
  congr 3
  have:xs=xs.take l++((xs.drop l).take (m-l)++xs.drop m):=by
   have d:xs.drop m=(xs.drop l).drop (m-l):=by simp_all
   rw [d,dN,dN]
  grind
 ·by_cases i:m-l=0
  ·grind
  ·right
   rcases w.at_ with rfl|a
   ·grind
   ·unfold Q3
    rw [iN o,a]
    simp only [Option.map_some,G8,Nat.mul_one,bB,eD,aP]
    grind
def Win.whole{h' g':aW}(w:Win k h g b e A pre xs post){l m:Nat}(hl:l<=m)(hm:m<=xs.length){B:Option bW}{ys:List Int}(hy:ys.length=m-l)(v:Win k h' g' b e B (pre++(xs.take l).map (bX k)) ys ((xs.drop m).map (bX k)++post)):
 Win k h' g' b e A pre (xs.take l++ys++xs.drop m) post:=by
 refine ⟨v.free,?_,?_⟩
 ·rw [v.eq]
  grind
 ·rcases w.at_ with rfl|a
  ·grind
  grind
def Priv.win{n c:Nat}(p:Priv h g e 1 A n c (xs.map (bX k)))(hx:xs≠[]):∃ b post,Win k h g b e A [] xs post:=by
 obtain ⟨r,m,i⟩:=p
 rcases i with ⟨s,rfl⟩|⟨b,a,l,j,rfl,q,d⟩
 ·simp_all
 ·refine ⟨b,a.drop (n*1),j,?_,.inr l⟩
  rw [cL,<- d,dN]
end
def W9{P:aT}{t:cP}(one:P.cellsOf t=1/\(P.info? t).isSome=true){k:dF}{n:Int}{i:Nat}{g:aW}{b:Nat}{e:cP}{zs:List Int}(hi:i<zs.length){K:Unit->aW->Prop}
 (x:K () (blk k e g b (zs.set i n))):wpH P (aQ t (.pointer (some (dQ ⟨b,0,none⟩ (i*1)))) (.int k n)) K (blk k e g b zs):=by
 have:=Ji (P:=P) (t:=t) one (k:=k) (n:=n) (i:=(i:Int)) (g:=g) (b:=b) (e:=e) (zs:=zs) (K:=K) o (by assumption)
 assumption
def S6{P:aT}{t e e' ty:cP}{k:dF}{bytes:Nat}(s:SliceT P t e' (.int k 0) 1 bytes){h g:aW}{b:Nat}{A:Option bW}{pre post:List dT}{xs:List Int}{n c m d:Nat}(w:Win k h g b e A pre xs post)(hn:n=xs.length){B:Option bW}{ys:List Int}(sy:SlI k h B ys)(hm:m=ys.length)(hle:ys.length<=xs.length){K:VP}
 (x:∀ h',Win k h' g b e A pre (ys++xs.drop ys.length) post->K (I ys.length) h'):wpH P (cA #[t,t] ty #[.slice A n c,.slice B m d]) K h:=by
 subst hn hm
 obtain ⟨i,y,z,p,q⟩:=s.parts
 unfold cA
 simp only [List.getElem?_toArray,aI,aR,B9,D3 s.und,H5 y,F4,Builtin.lenOf,p]
 have j:Nat.min ys.length xs.length=ys.length:=aK hle
 rw [j]
 refine H4 (s:=1) (cs:=ys.map (bX k)) (by simp) sy ?_
 cases A with
 | none=>
  rcases w.at_ with l|l
  ·have:ys=[]:=cF gz0
   subst this
   exact x h (by assumption)
  ·cases l
 | some a=>
  simp only [B9]
  rcases w.at_ with l|l
  ·have:ys=[]:=cF gz0
   subst this
   exact x h (by assumption)
  ·cases l
   rw [w.eq]
   refine G2 (ys.map (bX k)) pre.length 0 (pre++xs.map (bX k)++post) gz0 (fun v r=>?_) ?_
   ·obtain ⟨u,_,rfl⟩:=List.mem_map.1 r;rfl
   ·refine x _ ⟨w.free,?_,?_⟩
    ·congr 3
     unfold G9
     rw [eS,cG pre,cV rfl,eD]
     rw [eC,aZ (show pre.length<=pre.length+ys.length from o),eM,cL]
     rw [cT gz0,<- List.map_drop,List.map_append]
     grind
    grind
def Tg{P:aT}{nm:String}{x y c:Int}(hc:0<=c/\c<=1){f:Nat × Nat × Nat->dT}:Fs P (dB nm #[U x,U y,U c] >>= fun p=>pure (f p))=some (f (x.toNat,y.toNat,c.toNat)):=by
 obtain rfl|rfl:c=0\/c=1:=o
 ·rfl
 ·rfl
def Ye:aN=18446744073709551616:=dc
def T9{h:aW}{K:VP}{x y c:Int}(hx:0<=x/\x<18446744073709551616)(hy:0<=y/\y<18446744073709551616)(hc:0<=c/\c<=1)(hK:K (.tuple #[U ((x+y+c)%18446744073709551616),U ((x+y+c)/18446744073709551616)]) h):ECall prog 274 #[U x,U y,U c] h K:=by
 refine A2s Vu (Tg (P:=prog) hc (f:=fun p=>cJ ((p.1+p.2.1+p.2.2)%aN) ((p.1+p.2.1+p.2.2)/aN))) ?_
 have b:((x.toNat+y.toNat+c.toNat)%aN:Nat)=(((x+y+c)%18446744073709551616:Int)):=by
  rw [Ye]
  omega
 have a:((x.toNat+y.toNat+c.toNat)/aN:Nat)=(((x+y+c)/18446744073709551616:Int)):=by
  rw [Ye]
  omega
 show K (.tuple #[U ((x.toNat+y.toNat+c.toNat)%aN:Nat),U ((x.toNat+y.toNat+c.toNat)/aN:Nat)]) h
 grind
def Y8{h:aW}{K:VP}{x y c:Int}(hx:0<=x/\x<18446744073709551616)(hy:0<=y/\y<18446744073709551616)(hc:0<=c/\c<=1)(hK:K (.tuple #[U ((x-y-c)%18446744073709551616),U (if x-y-c<0 then 1 else 0)]) h):ECall prog 262 #[U x,U y,U c] h K:=by
 refine A2s Vt (Tg (P:=prog) hc (f:=fun p=>cJ ((p.1+aN-p.2.1-p.2.2)%aN) (if p.1<p.2.1+p.2.2 then 1 else 0))) ?_
 have a:((x.toNat+aN-y.toNat-c.toNat)%aN:Nat)=(((x-y-c)%18446744073709551616:Int)):=by
  rw [Ye]
  omega
 show K (.tuple #[U ((x.toNat+aN-y.toNat-c.toNat)%aN:Nat),U ((if x.toNat<y.toNat+c.toNat then 1 else 0:Nat):Nat)]) h
 grind
def U5(x y:Int):Int:=if x<y then -1 else if x>y then 1 else 0
def Xx{h:aW}{K:VP}{x:Int}(hK:K (.bool false) h):aH prog 272 #[I x] h K:=by
 refine (fnk func272) ?_
 grind
def Xw{h:aW}{K:VP}{x:Int}(hK:K (.bool false) h):aH prog 273 #[U x] h K:=by
 refine (fnk func273) ?_
 grind
def Xy{h:aW}{K:VP}{x:Int}(hK:K (.bool false) h):aH prog 195 #[I x] h K:=by
 refine (fnk func195) ?_
 have:(x != x)=false:=by simp
 rw [this];exact hK
def Jg{h:aW}{K:VP}{x y:Int}(hK:K (I (U5 x y)) h):aH prog 244 #[I x,I y] h K:=by
 refine (fnk func244) ?_
 refine Xx ⟨_,rfl,Xx ⟨_,rfl,?_⟩⟩
 unfold U5 at hK
 refine B4 (fun a=>?_) (fun a=>B4 (fun b=>?_) (fun b=>?_))
 ·grind
 ·grind
 grind
def Zf{h:aW}{K:VP}{x y:Int}(hK:K (I (U5 x y)) h):aH prog 245 #[U x,U y] h K:=by
 refine (fnk func245) ?_
 refine Xw ⟨_,rfl,Xw ⟨_,rfl,?_⟩⟩
 unfold U5 at hK
 refine B4 (fun a=>?_) (fun a=>B4 (fun b=>?_) (fun b=>?_))
 ·grind
 ·grind
 grind
def Zg{h:aW}{K:VP}{x y:Int}(hK:K (I (U5 x y)) h):aH prog 134 #[I x,I y] h K:=by
 refine (fnk func134) ?_
 refine Xy ⟨_,rfl,Xy ⟨_,rfl,?_⟩⟩
 unfold U5 at hK
 refine B4 (fun a=>?_) (fun a=>B4 (fun b=>?_) (fun b=>?_))
 ·rw [iP a] at hK;exact hK
 ·rw [iN a,iP b] at hK;exact hK
 ·rw [iN a,iN b] at hK;exact hK
def Ep{h:aW}{K:VP}{x y:Int}(hx:0<=x/\x<18446744073709551616)(hy:0<=y/\y<18446744073709551616)(hK:K (.tuple #[U (x*y/18446744073709551616),U (x*y%18446744073709551616)]) h):aH prog 214 #[U x,U y] h K:=by
 refine (fnk func214) ?_
 rw [X5 hx,X5 hy]
 simp only [A5i]
 obtain ⟨e,d,b,c,a⟩:=Rz hx hy (x1:=x/4294967296) (x0:=x%4294967296) (y1:=y/4294967296) (y0:=y%4294967296) o o o o
 generalize x/4294967296*(y/4294967296)=p11 at *
 generalize x/4294967296*(y%4294967296)=p10 at *
 generalize x%4294967296*(y/4294967296)=p01 at *
 generalize x%4294967296*(y%4294967296)=p00 at *
 rw [C0 (n:=p00) o o,C0 (n:=p10) o o,C0 (n:=p01) o o,C0 (n:=p11) o o]
 rw [C0 (n:=p10+p00/4294967296) o o,X5 o]
 rw [C0 (n:=(p10+p00/4294967296)%4294967296+p01) o o]
 rw [C0 (n:=p11+(p10+p00/4294967296)/4294967296) o o,C0 o o,F0]
 have:p11+(p10+p00/4294967296)/4294967296+((p10+p00/4294967296)%4294967296+p01)/4294967296=x*y/18446744073709551616:=by
  omega
 grind
def L3{h:aW}{K:VP}{x y c:Int}(hx:0<=x/\x<18446744073709551616)(hy:0<=y/\y<18446744073709551616)(hc:0<=c/\c<18446744073709551616)(hK:K (.tuple #[U ((x*y+c)%18446744073709551616),U ((x*y+c)/18446744073709551616)]) h):aH prog 261 #[U x,U y,U c] h K:=by
 have a:0<=x*y/\x*y<=18446744073709551615*18446744073709551615:=⟨aS hx.1 hy.1,cY o o hy.1 dc⟩
 refine (fnk func261) ?_
 refine Ep hx hy ⟨_,_,rfl,?_⟩
 refine T9 o hc o ⟨_,_,rfl,?_⟩
 rw [C0 o o]
 grind
def A4m(a:Array UInt8):({ data:=a }:ByteArray)=bs a.toList:=by simp [bs]
def Yg:List UInt8:=[0,1,2,2,3,3,3,3,4,4,4,4,4,4,4,4,5,5,5,5,5,5,5,5,5,5,5,5,5,5,5,5]++aE 32 6++aE 64 7++aE 128 8
def Va:∀ i,i<256->(Yg[i]?).map UInt8.toNat=some (L8 i):=dc
def Nm{x s:Nat}(h:2^s<=x):L8 x=s+L8 (x/2^s):=by
 have b:0<2^s:=dC dc
 have a:x/2^s≠0:=by
  simp_all
 have:=Vn (l:=x%2^s) (t:=x/2^s) (j:=s) (Nat.mod_lt _ b) a
 rw [Nat.mod_add_div] at this
 exact this
def Mt{h:aW}{K:VP}{x:Nat}(hx:x<18446744073709551616)(hK:K (I (L8 x)) h):aH prog 266 #[U x] h K:=by
 refine A00 _ ?_
 have q:∀ (y s:Nat),s<=64->aV (y:Int) (2^(min ((s:Int)).toNat 64))=((y/2^s:Nat):Int):=by
  grind
 refine ⟨fun l a=>∃ (y n:Nat),l=[U y,I n]/\a=h/\y<4294967296/\L8 x=n+L8 y/\n<=32,B4 (fun d=>?_) (fun d=>?_),?_⟩
 ·refine ⟨x/2^32,32,?_,rfl,o,Nm o,o⟩
  grind
 ·exact ⟨x,0,rfl,rfl,o,o,o⟩
 rintro g b a ⟨y,n,p,rfl,m,e,r⟩
 obtain ⟨rfl,rfl⟩:g=(y:Int)/\b=(n:Int):=gz0
 refine ⟨fun l j=>∃ (y n:Nat),l=[U y,I n]/\j=a/\y<65536/\L8 x=n+L8 y/\n<=48,B4 (fun d=>?_) (fun d=>?_),?_⟩
 ·refine ⟨y/2^16,n+16,?_,rfl,o,by rw [e,Nm (x:=y) (s:=16) o];omega,o⟩
  rw [show (16:Int)=((16:Nat):Int) from rfl,q y 16 o,B5 o o];rfl
 ·grind
 rintro g b a ⟨y,n,p,rfl,m,e,r⟩
 obtain ⟨rfl,rfl⟩:g=(y:Int)/\b=(n:Int):=gz0
 refine ⟨fun l j=>∃ (y n:Nat),l=[U y,I n]/\j=a/\y<256/\L8 x=n+L8 y/\n<=56,B4 (fun d=>?_) (fun d=>?_),?_⟩
 ·refine ⟨y/2^8,n+8,?_,rfl,o,by rw [e,Nm (x:=y) (s:=8) o];omega,o⟩
  rw [show (8:Int)=((8:Nat):Int) from rfl,q y 8 o,B5 o o];rfl
 ·grind
 rintro g b a ⟨y,n,p,rfl,m,e,r⟩
 obtain ⟨rfl,rfl⟩:g=(y:Int)/\b=(n:Int):=gz0
 rw [Sy o o,aC]
 have w:=Va y m
 cases hc:Yg[y]? with
 | none=>grind
 | some c=>
  have i:c.toNat=L8 y:=gz0
  refine ⟨c,⟨o,?_⟩,?_⟩
  ·try unfold Tr
   rw [A4m,Ue];exact hc
  ·have u:L8 y<=8:=Bq (k:=8) o
   rw [i,B5 (n:=((L8 y:Nat):Int)) o o,B5 o o,<- Int.natCast_add,<- e]
   exact hK
def K4{h:aW}{K:VP}{x:Nat}(hx:x<18446744073709551616)(hK:K (I ((64-L8 x:Nat):Int)) h):aH prog 258 #[U x] h K:=by
 refine (fnk func258) ?_
 refine Mt hx ⟨_,rfl,?_⟩
 have a:L8 x<=64:=Bq (k:=64) o
 rw [B5 o o]
 have:(64:Int)-((L8 x:Nat):Int)=((64-L8 x:Nat):Int):=o
 rw [this];exact hK
def Pv{a b:Int}{s:Nat}(ha:0<=a)(hb:0<=b/\b<2^s)(hab:a*2^s+b<18446744073709551616):bor .u64 (a*2^s) b=a*2^s+b:=by
 have d:0<=a*2^s:=aS ha o
 rw [Vm o o]
 have e:(a*2^s).toNat=2^s*a.toNat:=by
  grind
 have c:b.toNat<2^s:=by
  grind
 rw [e,A2k c,<- e];omega
def Q0{s:Nat}(hs:s<=64):(2:Int)^s*2^(64-s)=18446744073709551616:=by
 rw [<- aX,show s+(64-s)=64 from o];decide
def A02{x:Int}{s:Nat}(hs:s<=64):aV x (2^(min s 64))=x/2^s:=by
 grind
def Est.exact{B top u2 v1 v2 U V:Int}(e:Est B 1 top u2 0 v1 v2 0 U V){q:Int}(h:q*(v1*B+v2)<=top*B+u2):q*V<=U:=by
 have a:=e.hU
 have b:=e.hV
 grind
section
variable {h:aW} {K:VP}
def Zb{T u2 v1 v2 X Y:Int}{hp:aW}{J:Int->aW->Prop}(es:Est 4294967296 1 T u2 0 v1 v2 0 X Y)(_hT:T<18446744073709551616)
 (hJ:∀ q,0<=q->q*Y<=X->X<(q+1)*Y->J q hp):
 ∃ (Inv:Int->Int->aW->Prop) (mu:Int->Int->aW->Nat),Inv (T/v1) (T%v1) hp/\
  ∀ q r hp1,Inv q r hp1->(q>=4294967296->Inv q r hp1)/\0<=q/\q<=4294967297/\0<=r/\r<4294967296/\hp1=hp/\
   (q<4294967296->¬ (q*v2>4294967296*r+u2)->J q hp1)/\
   ((q>=4294967296\/q*v2>4294967296*r+u2)->1<=q/\(r+v1>=4294967296->J (q-1) hp1)/\(r+v1<4294967296->Inv (q-1) (r+v1) hp1/\mu (q-1) (r+v1) hp1<mu q r hp1)):=by
 obtain ⟨F,G⟩:=es.first
 have n:=es.init
 have D:=es.v1r
 have p:=es.v2r
 have z:=es.u2r
 have c:=es.top0
 have m:0<=T/v1:=bL c o
 have A:=aJ T v1
 have l:=aU T (show v1≠0 from o)
 have B:=aM T (show 0<v1 from o)
 refine ⟨fun q r hp1=>hp1=hp/\0<=q/\q<=4294967297/\0<=r/\r<4294967296/\q*v1+r=T/\X<(q+1)*Y,fun q _ _=>q.toNat,⟨rfl,m,o,l,o,gz0,n⟩,?_⟩
 rintro q r hp1 ⟨rfl,g,u,w,s,k,b⟩
 have key:q*(v1*4294967296+v2)=(T-r)*4294967296+q*v2:=gz0
 refine ⟨fun _=>⟨rfl,g,u,w,s,k,b⟩,g,u,w,s,rfl,fun i E=>hJ q g (es.exact o) b,fun e=>?_⟩
 have y:X<q*Y:=by
  rcases e with i|i
  ·exact es.big i
  ·exact es.low g o
 have j:1<=q:=by
  grind
 have a:X<(q-1+1)*Y:=gz0
 have d:(q-1)*v1+(r+v1)=T:=gz0
 refine ⟨j,fun C=>?_,fun C=>⟨⟨rfl,o,o,o,o,d,a⟩,gz0⟩⟩
 have x:(q-1)*(v1*4294967296+v2)=(T-(r+v1))*4294967296+(q-1)*v2:=gz0
 have i:(q-1)*v2<=4294967296*v2:=aD o p.1
 exact hJ (q-1) o (es.exact o) a
def Hu{hi lo:Int}{y:Nat}(hhi:0<=hi/\hi<y)(hlo:0<=lo/\lo<18446744073709551616)(hy:y<18446744073709551616)
 (hK:K (.tuple #[U ((hi*18446744073709551616+lo)/y),U ((hi*18446744073709551616+lo)%y)]) h):aH prog 264 #[U hi,U lo,U y] h K:=by
 refine A01 _ _ _ ?_
 unfold A2z
 refine E4 (fun e=>absurd e o) (fun _=>?_)
 refine B4 (fun e=>absurd e o) (fun _=>?_)
 refine E4 (fun e=>?_) (fun a2=>?_)
 ·refine B4 (fun e=>absurd e o) (fun _=>?_)
  refine B4 (fun e=>absurd e o) (fun _=>?_)
  subst e
  rw [dI,cI] at hK
  rw [bC hlo.1,cX hlo.1,C0 (bL hlo.1 o) (cZ (dG _ hlo.1) hlo.2)]
  exact hK
 refine K4 hy ⟨_,rfl,?_⟩
 have am:y≠0:=o
 obtain ⟨bf,bb⟩:=X3 am
 have az:L8 y<=64:=Bq (k:=64) o
 have ba:1<=L8 y:=gz0
 obtain ⟨s,hs⟩:∃ s,s=64-L8 y:=⟨_,rfl⟩
 rw [<- hs]
 have a0:s<64:=o
 have m:0<(2:Int)^s:=bK dc
 have O:=Q0 (s:=s) o
 have ai:0<(2:Int)^(64-s):=bK dc
 have ah:L8 y=64-s:=o
 have ap:(y:Int)<2^(64-s):=by
  grind
 have ac:(2:Int)^(63-s)<=y:=by
  grind
 have F:(2:Int)^s*2^(63-s)=9223372036854775808:=by
  rw [<- aX,show s+(63-s)=63 from o];decide
 have ag:C4 (s:Int)=(s:Int):=C0 o o
 have ab:C4 ((64:Int)-s)=((64-s:Nat):Int):=by rw [C0 o o];omega
 have G:(y:Int)*2^s<18446744073709551616:=by
  rw [<- O,bA];exact bN ap m
 have ay:9223372036854775808<=(y:Int)*2^s:=by
  rw [<- F,bA (y:Int)];exact aG ac o
 have eY:C4 ((y:Int)*2^(min s 64))=(y:Int)*2^s:=by rw [aK o,C0 o G]
 have a8:hi*2^s+2^s<=(y:Int)*2^s:=by
  have:=aD (show hi+1<=(y:Int) from o) (aO m)
  grind
 have V:0<=hi*2^s:=aS hhi.1 o
 have aa:0<=lo/2^(64-s)/\lo/2^(64-s)<2^s:=by
  refine ⟨bL hlo.1 o,bD ai ?_⟩
  omega
 have eT:bor .u64 (C4 (hi*2^(min s 64))) (aV lo (2^(min (64-s) 64)))=hi*2^s+lo/2^(64-s):=by
  rw [aK (show s<=64 from o),C0 V o,A02 o,Pv hhi.1 aa o]
 have eL:C4 (lo*2^(min s 64))=lo*2^s%18446744073709551616:=by rw [aK o,F0]
 have a9:0<=lo*2^s%18446744073709551616/\lo*2^s%18446744073709551616<18446744073709551616:=⟨aU _ dc,aM _ dc⟩
 have hN:(hi*18446744073709551616+lo)*2^s=(hi*2^s+lo/2^(64-s))*18446744073709551616+lo*2^s%18446744073709551616:=by
  have d1:lo*2^s/18446744073709551616=lo/2^(64-s):=by
   rw [<- O,bA lo,Int.mul_ediv_mul_of_pos _ _ m]
  grind
 generalize hTT:hi*2^s+lo/2^(64-s)=T at *
 generalize hLL:lo*2^s%18446744073709551616=L at *
 generalize hYY:(y:Int)*2^s=Y at *
 have x:0<=T/\T<Y:=o
 unfold Ql Qn Qk Qm
 simp only [ag,ab,aC,eY,eT,eL,A5i]
 rw [X5 o,X5 o]
 have e1:Est 4294967296 1 T (L/4294967296) 0 (Y/4294967296) (Y%4294967296) 0 (T*4294967296+L/4294967296) Y:=
  ⟨dc,dc,o,o,o,o,o,o,x.1,o,o⟩
 refine B4 (fun e=>absurd e o) (fun _=>?_)
 refine B4 (fun e=>absurd e o) (fun _=>?_)
 refine B4 (fun e=>absurd e o) (fun _=>?_)
 refine B4 (fun e=>absurd e o) (fun _=>?_)
 refine B4 (fun e=>absurd e o) (fun _=>?_)
 have bm:∀ {q w:Int},0<=q->q<=4294967296->0<=w->w<4294967296->0<=q*w/\q*w<18446744073709551616:=by
  intro q w a b c d
  refine ⟨aS a c,?_⟩
  have:=cY b (show w<=4294967295 from o) c dc
  omega
 refine ⟨fun l hp=>∃ q,l=[U q]/\hp=h/\0<=q/\q*Y<=T*4294967296+L/4294967296/\T*4294967296+L/4294967296<(q+1)*Y,?_,?_⟩
 ·obtain ⟨Inv,mu,i0,st⟩:=Zb (hp:=h) (J:=fun q hp=>∃ j,[U q]=[U j]/\hp=h/\0<=j/\j*Y<=T*4294967296+L/4294967296/\T*4294967296+L/4294967296<(j+1)*Y) e1 o (fun q a b c=>⟨q,rfl,rfl,a,b,c⟩)
  refine ⟨fun l hp=>∃ q r,l=[U q,U r]/\Inv q r hp,fun l hp=>mu (iAt l 0) (iAt l 1) hp,⟨T/(Y/4294967296),T%(Y/4294967296),?_,i0⟩,?_⟩
  ·have dm:=aJ T (Y/4294967296)
   have H:=bL x.1 (show 0<=Y/4294967296 from o)
   have d1:T/(Y/4294967296)<=T:=dG _ x.1
   have d2:=aU T (show Y/4294967296≠0 from o)
   rw [bC x.1,C0 (n:=T/(Y/4294967296)) H o,bA (T/(Y/4294967296))]
   have d3:=aS (show 0<=Y/4294967296 from o) H
   rw [C0 (n:=Y/4294967296*(T/(Y/4294967296))) d3 o,C0 o o]
   have:T-Y/4294967296*(T/(Y/4294967296))=T%(Y/4294967296):=o
   rw [this]
  rintro q r u ⟨j,r',hl,hI⟩
  obtain ⟨rfl,rfl⟩:q=j/\r=r':=by simpa using hl
  obtain ⟨_,g,i,r0,r1,rfl,ok,E⟩:=st q r u hI
  have N:=bm (q:=4294967296) (w:=r) o o r0 r1
  refine ⟨fun l hp=>l=[]/\hp=u/\(q>=4294967296\/q*(Y%4294967296)>4294967296*r+L/4294967296),B4 (fun S=>⟨rfl,rfl,.inl S⟩) (fun S=>?_),?_⟩
  ·have Q:=bm (q:=q) (w:=Y%4294967296) g o o o
   rw [C0 Q.1 Q.2,C0 N.1 N.2,C0 (n:=4294967296*r+L/4294967296) o o]
   exact B4 (fun D=>⟨rfl,rfl,.inr D⟩) (fun D=>ok o D)
  ·rintro ak ⟨_,rfl,p⟩
   obtain ⟨g1,g2,X⟩:=E p
   rw [C0 (n:=r+Y/4294967296) o o,C0 (n:=q-1) o o]
   exact B4 (fun M=>g2 M) (fun M=>⟨⟨_,_,rfl,(X o).1⟩,(X o).2⟩)
 rintro i A ⟨ae,a7,rfl,aq,a5,be⟩
 obtain rfl:i=ae:=gz0
 have ax:i<4294967296:=by
  by_cases B:i<4294967296
  ·exact B
  ·have:=aD (show 4294967296<=i from o) (show 0<=Y from o);omega
 have bg:(i+1)*Y=i*Y+Y:=gz0
 have a1:0<=i*Y:=aS aq o
 have af:C4 (C4 (C4 (T*4294967296)+L/4294967296)-C4 (i*Y))=T*4294967296+L/4294967296-i*Y:=by
  simp only [F0];omega
 simp only [af]
 generalize hRR:T*4294967296+L/4294967296-i*Y=R at *
 have z:0<=R/\R<Y:=o
 refine B4 (fun e=>absurd e o) (fun _=>?_)
 have e2:Est 4294967296 1 R (L%4294967296) 0 (Y/4294967296) (Y%4294967296) 0 (R*4294967296+L%4294967296) Y:=
  ⟨dc,dc,o,o,o,o,o,o,z.1,o,o⟩
 refine ⟨fun l hp=>∃ q,l=[U q]/\hp=A/\0<=q/\q*Y<=R*4294967296+L%4294967296/\R*4294967296+L%4294967296<(q+1)*Y,?_,?_⟩
 ·obtain ⟨Inv,mu,i0,st⟩:=Zb (hp:=A) (J:=fun q hp=>∃ j,[U q]=[U j]/\hp=A/\0<=j/\j*Y<=R*4294967296+L%4294967296/\R*4294967296+L%4294967296<(j+1)*Y) e2 o (fun q a b c=>⟨q,rfl,rfl,a,b,c⟩)
  refine ⟨fun l hp=>∃ q r,l=[U r,U q]/\Inv q r hp,fun l hp=>mu (iAt l 1) (iAt l 0) hp,⟨R/(Y/4294967296),R%(Y/4294967296),?_,i0⟩,?_⟩
  ·have dm:=aJ R (Y/4294967296)
   have H:=bL z.1 (show 0<=Y/4294967296 from o)
   have d1:R/(Y/4294967296)<=R:=dG _ z.1
   have d2:=aU R (show Y/4294967296≠0 from o)
   rw [bC z.1,C0 (n:=R/(Y/4294967296)) H o,bA (R/(Y/4294967296))]
   have d3:=aS (show 0<=Y/4294967296 from o) H
   rw [C0 (n:=Y/4294967296*(R/(Y/4294967296))) d3 o,C0 o o]
   have:R-Y/4294967296*(R/(Y/4294967296))=R%(Y/4294967296):=o
   rw [this]
  rintro r q u ⟨j,r',hl,hI⟩
  obtain ⟨rfl,rfl⟩:r=r'/\q=j:=by simpa using hl
  obtain ⟨_,g,i,r0,r1,rfl,ok,E⟩:=st q r u hI
  have N:=bm (q:=4294967296) (w:=r) o o r0 r1
  refine ⟨fun l hp=>l=[]/\hp=u/\(q>=4294967296\/q*(Y%4294967296)>4294967296*r+L%4294967296),B4 (fun S=>⟨rfl,rfl,.inl S⟩) (fun S=>?_),?_⟩
  ·have Q:=bm (q:=q) (w:=Y%4294967296) g o o o
   rw [C0 Q.1 Q.2,C0 N.1 N.2,C0 (n:=4294967296*r+L%4294967296) o o]
   exact B4 (fun D=>⟨rfl,rfl,.inr D⟩) (fun D=>ok o D)
  ·rintro ak ⟨_,rfl,p⟩
   obtain ⟨g1,g2,X⟩:=E p
   rw [C0 (n:=r+Y/4294967296) o o,C0 (n:=q-1) o o]
   exact B4 (fun M=>g2 M) (fun M=>⟨⟨_,_,rfl,(X o).1⟩,(X o).2⟩)
 rintro g bd ⟨aj,a3,rfl,ao,a6,a4⟩
 obtain rfl:g=aj:=gz0
 refine B4 (fun e=>absurd e o) (fun _=>?_)
 have ar:g<4294967296:=by
  by_cases B:g<4294967296
  ·exact B
  ·have:=aD (show 4294967296<=g from o) (show 0<=Y from o);omega
 have bc:(g+1)*Y=g*Y+Y:=gz0
 have au:0<=g*Y:=aS ao o
 have an:C4 (C4 (C4 (R*4294967296)+L%4294967296)-C4 (g*Y))=R*4294967296+L%4294967296-g*Y:=by
  simp only [F0];omega
 rw [an,C0 (n:=i*4294967296) o o,C0 (n:=i*4294967296+g) o o,A02 o]
 have aw:(hi*18446744073709551616+lo)*2^s=(i*4294967296+g)*(y*2^s)+(R*4294967296+L%4294967296-g*Y):=by
  grind
 have C:R*4294967296+L%4294967296-g*Y=(hi*18446744073709551616+lo-(i*4294967296+g)*y)*2^s:=gz0
 rw [C,dR _ (show (2:Int)^s≠0 from o)]
 have al:0<=hi*18446744073709551616+lo-(i*4294967296+g)*y:=by
  by_cases B:0<=hi*18446744073709551616+lo-(i*4294967296+g)*y
  ·exact B
  ·have:=aD (show hi*18446744073709551616+lo-(i*4294967296+g)*y <= -1 from o) (aO m);omega
 have ad:hi*18446744073709551616+lo-(i*4294967296+g)*y<y:=by
  by_cases B:hi*18446744073709551616+lo-(i*4294967296+g)*y<y
  ·exact B
  ·have:=aD (show (y:Int)<=hi*18446744073709551616+lo-(i*4294967296+g)*y from o) (aO m);omega
 have W:(hi*18446744073709551616+lo)/y=i*4294967296+g:=by
  have:hi*18446744073709551616+lo=(hi*18446744073709551616+lo-(i*4294967296+g)*y)+(i*4294967296+g)*y:=o
  rw [this,dJ _ _ o,bI al ad,cI]
 have av:(hi*18446744073709551616+lo)%y=hi*18446744073709551616+lo-(i*4294967296+g)*y:=by
  rw [Int.emod_def,W,bA (y:Int)]
 grind
end
def I5{xs:List Int}(d:Dig b64 xs)(i:Nat):0<=xs.getD i 0/\xs.getD i 0<18446744073709551616:=d.getD dc i
def W5(c:Int):0<=c%18446744073709551616/\c%18446744073709551616<b64:=⟨aU _ dc,aM _ dc⟩
section
variable {h g:aW} {K:VP} {A B:Option bW} {ac bc:Nat}
def V4{xs:List Int}(s:SlI .u64 h A xs)(hc:xs.length<=ac)(hl:xs.length<=100000000000000)(hK:∀ m,m<=xs.length->Norm (xs.take m)->val b64 (xs.take m)=val b64 xs->K (.slice A m ac) h):aH prog 221 #[.slice A xs.length ac] h K:=by
 refine (fnk func221 [(2,[3],[],[I 0])]) ?_
 refine ⟨fun l d=>∃ m:Nat,l=[I m]/\m<=xs.length/\d=h/\val b64 (xs.take m)=val b64 xs,fun l _=>(iAt l 0).toNat,⟨xs.length,rfl,bG _,rfl,by rw [cC]⟩,?_⟩
 rintro k q ⟨m,g,c,rfl,a⟩
 obtain rfl:k=(m:Int):=gz0
 refine B4 (fun p=>?_) (fun p=>?_)
 ·obtain ⟨j,rfl⟩:∃ j,m=j+1:=⟨m-1,o⟩
  have e:B7 (((j+1:Nat):Int)-1)=(j:Int):=by rw [B5 o o];omega
  rw [e]
  have n:=K3 b64 (xs:=xs) (i:=j) o
  refine s.load rfl o o ?_
  refine E4 (fun b=>?_) (fun b=>?_)
  ·exact ⟨⟨j,rfl,o,rfl,gz0⟩,by simp only [iAt,aI];omega⟩
  ·refine ⟨⟨o,o⟩,?_⟩
   rw [I7,aC,bU,bU]
   refine hK (j+1) c ?_ a
   rw [Od o];exact Xu b
 ·have:m=0:=o
  subst this
  refine ⟨⟨o,o⟩,?_⟩
  rw [I7,aC,bU,bU]
  exact hK 0 o Norm.nil a
def J3{xs:List Int}(s:SlI .u64 h A xs)(hd:Dig b64 xs)(hc:xs.length<=ac)(hl:xs.length<=100000000000000)(hK:∀ m,m<=xs.length->Mw h A m (val b64 xs)->K (.slice A m ac) h):aH prog 221 #[.slice A xs.length ac] h K:=by
 refine V4 s hc hl ?_
 intro m a d b
 refine hK m a ⟨xs.take m,gz0,?_,hd.take m,d,b⟩
 have:=s.cut (c:=ac) (l:=0) (m:=m) o a hc
 simpa [I7] using this
def R7{w:Int}(hw:0<=w/\w<18446744073709551616)(hK:∀ A m c h',h.le h'->m<=c->Mw h' A m w->K (.slice A m c) h'):aH prog 233 #[U w] h K:=by
 refine (fnk func233) ?_
 refine E4 (fun e=>?_) (fun e=>?_)
 ·subst e;exact hK none 0 0 h (B3 h) (bG _) Mag.zero
 ·refine S5 I6 rfl ?_
  intro b a
  exact ⟨_,_,_,rfl,hK _ _ _ _ (Heap.le_put _ a) (bG _) ⟨[w],rfl,SlI.new h b [w] 230 _,Dig.one hw,by simpa [Norm] using e,Y6 _ _⟩⟩
def E3{x y:Int}{an bn:Nat}(ma:Mw h A an x)(mb:Mw h B bn y)(hl:an<=100000000000000)(hK:K (I (U5 x y)) h):aH prog 196 #[.slice A an ac,.slice B bn bc] h K:=by
 obtain ⟨xs,rfl,m,c,D,rfl⟩:=ma
 obtain ⟨a,rfl,n,b,s,rfl⟩:=mb
 refine (fnk func196 [(4,[5],[],[I 0])]) ?_
 refine H9 (fun z=>?_) (fun z=>?_)
 ·refine Jg ⟨_,rfl,?_⟩
  have:U5 (xs.length:Int) (a.length:Int)=U5 (val b64 xs) (val b64 a):=by
   unfold U5
   by_cases g:xs.length<a.length
   ·have:=Kc dc c b s g
    omega
   ·have:=Kc dc b c D o
    omega
  grind
 ·have p:xs.length=a.length:=o
  refine ⟨fun l q=>∃ k:Nat,l=[I ((k:Int)-1)]/\k<=xs.length/\q=h/\xs.drop k=a.drop k,fun l _=>(iAt l 0+1).toNat,⟨xs.length,?_,bG _,rfl,?_⟩,?_⟩
  ·rw [B5 o o]
  ·grind
  rintro i E ⟨k,w,F,rfl,d⟩
  obtain rfl:i=(k:Int)-1:=gz0
  refine B4 (fun g=>?_) (fun g=>?_)
  ·obtain ⟨j,rfl⟩:∃ j,k=j+1:=⟨k-1,o⟩
   have e:((j+1:Nat):Int)-1=(j:Int):=o
   rw [e]
   refine m.load rfl o o ?_
   refine n.load rfl o o ?_
   rw [aC]
   refine H9 (fun C=>?_) (fun C=>?_)
   ·refine m.load rfl o o ?_
    refine n.load rfl o o ?_
    refine Zf ⟨_,rfl,B3 _,?_⟩
    have:U5 (xs.getD j 0) (a.getD j 0)=U5 (val b64 xs) (val b64 a):=by
     unfold U5
     by_cases u:xs.getD j 0<a.getD j 0
     ·have:=Kb dc c b (i:=j) o o d u
      omega
     ·have:=Kb dc b c (i:=j) o o d.symm o
      omega
    grind
   ·rw [B5 o o]
    refine ⟨⟨j,rfl,o,rfl,?_⟩,by simp only [iAt,aI];omega⟩
    rw [eI (show j<xs.length from o),eI (show j<a.length from o),d]
    grind
  ·have r:k=0:=o
   have:U5 (val b64 xs) (val b64 xs)=0:=by unfold U5;omega
   grind
def W8{xs:List Int}{an:Nat}(s:SlI .u64 h A xs)(hn:an=xs.length)(hl:xs.length<=17500000000000)(hK:∀ A' c' h' g',h.le g'->Priv h' g' 230 1 A' xs.length c' (xs.map (bX .u64))->K (.slice A' xs.length c') h'):aH prog 229 #[.slice A an ac] h K:=by
 subst hn
 refine (fnk func229) ?_
 refine Br.of (fun e=>?_) (fun e=>?_)
 ·have k:xs=[]:=by
   rcases s with m|⟨a,l,_⟩
   ·simp_all
   grind
  subst k
  exact hK none 0 h h (B3 h) (by simpa using Priv.nil _ _ _ _)
 ·refine Yf I6 ?_
  intro b i
  refine ⟨_,_,_,rfl,?_⟩
  have c:=Heap.le_put (h:=h) (b:=b) (.cells #[] 230) i
  refine Jl I6 (Priv.nil _ _ _ _) (ys:=xs.map (bX .u64)) (by simp) (SlI.mono c s) (fun v g=>?_) o o ?_
  ·obtain ⟨a,_,rfl⟩:=List.mem_map.1 g;rfl
  ·intro A' c' h' g' j d
   simp only [Nat.zero_add,cL] at d ⊢
   exact ⟨_,_,_,rfl,hK _ _ _ _ (A0 c j) d⟩
variable {b:Nat} {e:cP} {pre post:List dT}
def Bt{xs ys:List Int}{an bn:Nat}(w:Win .u64 h g b e A pre xs post)(hn:an=xs.length)(sy:SlI .u64 g B ys)(hm:bn=ys.length)(dx:Dig b64 xs)(dy:Dig b64 ys)(hle:ys.length<=xs.length)(hfit:val b64 xs+val b64 ys<b64^xs.length)(hl:xs.length<=100000000000000)
 (hK:∀ xs' h',xs'.length=xs.length->Dig b64 xs'->val b64 xs'=val b64 xs+val b64 ys->Win .u64 h' g b e A pre xs' post->K (.tuple #[]) h'):aH prog 248 #[.slice A an ac,.slice B bn bc] h K:=by
 subst hn hm
 refine (fnk func248 [(2,[4,10],[],[U 0,I 0]),(7,[4,7],[],[U 0,I 0])]) ?_
 refine ⟨fun l u=>∃ (k:Nat) (c:Int) (zs:List Int),l=[U c,I k]/\k<=ys.length/\zs.length=xs.length/\Dig b64 zs/\(0<=c/\c<=1)/\Win .u64 u g b e A pre zs post/\zs.drop k=xs.drop k/\val b64 (zs.take k)+c*b64^k=val b64 (xs.take k)+val b64 (ys.take k),fun l _=>ys.length-(iAt l 1).toNat,⟨0,0,xs,rfl,o,rfl,dx,o,w,rfl,by rfl⟩,?_⟩
 rintro c i u ⟨k,F,zs,L,O,m,p,C,j,d,z⟩
 obtain ⟨rfl,rfl⟩:c=F/\i=(k:Int):=gz0
 refine B4 (fun H=>?_) (fun H=>?_)
 ·have R:=I5 dy k
  have D:=I5 p k
  have r:=F9 d
  have G:=C5 b64 xs k
  have S:=C5 b64 ys k
  refine (sy.mono j.le).load rfl o o ?_
  refine j.sl.load m.symm o o ?_
  simp only [aC]
  refine T9 D R C ⟨_,_,rfl,?_⟩
  obtain ⟨a,x,_⟩:=SlV.at j.sl (i:=k) gz0
  refine ⟨a,x,o,o,j.storeN (i:=k) D8 x o ?_⟩
  intro h' E
  rw [B5 (n:=(k:Int)+1) o o]
  refine ⟨⟨k+1,_,_,rfl,o,gz0,p.set (W5 _),o,E,?_,?_⟩,by simp only [iAt,aI,aR];omega⟩
  ·rw [E2 o];exact E6 d
  ·rw [C9 o,F5,aP,aK o,bH,Gf,G,S,<- r]
   grind
 ·have q:k=ys.length:=o
  subst q
  rw [cC] at z
  refine ⟨fun l u=>∃ (k:Nat) (c:Int) (zs:List Int),l=[U c,I k]/\ys.length<=k/\k<=xs.length/\zs.length=xs.length/\Dig b64 zs/\(0<=c/\c<=1)/\Win .u64 u g b e A pre zs post/\zs.drop k=xs.drop k/\val b64 (zs.take k)+c*b64^k=val b64 (xs.take k)+val b64 ys,fun l _=>xs.length-(iAt l 1).toNat,⟨ys.length,c,zs,rfl,o,o,m,p,C,j,d,z⟩,?_⟩
  rintro c i u ⟨k,F,zs,L,Q,O,m,p,C,j,d,z⟩
  obtain ⟨rfl,rfl⟩:c=F/\i=(k:Int):=gz0
  have y:=F7 b64 zs (i:=k) o
  have s:=F7 b64 xs (i:=k) o
  refine H9 (fun N=>B4 (fun H=>?_) (fun H=>?_)) (fun N=>?_)
  ·have D:=I5 p k
   have r:=F9 d
   have G:=C5 b64 xs k
   refine j.sl.load m.symm o o ?_
   simp only [aC]
   refine T9 D o C ⟨_,_,rfl,?_⟩
   obtain ⟨a,x,_⟩:=SlV.at j.sl (i:=k) gz0
   refine ⟨a,x,o,o,j.storeN (i:=k) D8 x o ?_⟩
   intro h' E
   rw [B5 (n:=(k:Int)+1) o o]
   refine ⟨⟨k+1,_,_,rfl,o,o,gz0,p.set (W5 _),o,E,?_,?_⟩,by simp only [iAt,aI,aR];omega⟩
   ·rw [E2 o];exact E6 d
   ·rw [C9 o,F5,aP,aK o,bH,Gf,G,<- r]
    grind
  ·exfalso
   have q:k=xs.length:=o
   subst q
   have M:c=1:=o
   subst M
   rw [cC] at z
   have:=C3 dc (p.take xs.length)
   omega
  grind
def V8{xs ys:List Int}{an bn:Nat}(w:Win .u64 h g b e A pre xs post)(hn:an=xs.length)(sy:SlI .u64 g B ys)(hm:bn=ys.length)(dx:Dig b64 xs)(dy:Dig b64 ys)(hle:ys.length<=xs.length)(hfit:val b64 ys<=val b64 xs)(hl:xs.length<=100000000000000)
 (hK:∀ xs' h',xs'.length=xs.length->Dig b64 xs'->val b64 xs'=val b64 xs-val b64 ys->Win .u64 h' g b e A pre xs' post->K (.tuple #[]) h'):aH prog 249 #[.slice A an ac,.slice B bn bc] h K:=by
 subst hn hm
 refine (fnk func249 [(2,[4,10],[],[U 0,I 0]),(7,[4,7],[],[U 0,I 0])]) ?_
 have key:∀ {z y c:Int},(0<=z/\z<18446744073709551616)->(0<=y/\y<18446744073709551616)->(0<=c/\c<=1)->(z-y-c)%18446744073709551616=z-y-c+18446744073709551616*(if z-y-c<0 then 1 else 0):=by
  omega
 refine ⟨fun l x=>∃ (k:Nat) (c:Int) (zs:List Int),l=[U c,I k]/\k<=ys.length/\zs.length=xs.length/\Dig b64 zs/\(0<=c/\c<=1)/\Win .u64 x g b e A pre zs post/\zs.drop k=xs.drop k/\val b64 (zs.take k)=val b64 (xs.take k)-val b64 (ys.take k)+c*b64^k,fun l _=>ys.length-(iAt l 1).toNat,⟨0,0,xs,rfl,o,rfl,dx,o,w,rfl,by rfl⟩,?_⟩
 rintro c i x ⟨k,G,zs,N,R,m,p,r,j,d,C⟩
 obtain ⟨rfl,rfl⟩:c=G/\i=(k:Int):=gz0
 refine B4 (fun M=>?_) (fun M=>?_)
 ·have O:=I5 dy k
  have u:=I5 p k
  have q:=F9 d
  have H:=C5 b64 xs k
  have T:=C5 b64 ys k
  refine (sy.mono j.le).load rfl o o ?_
  refine j.sl.load m.symm o o ?_
  simp only [aC]
  refine Y8 u O r ⟨_,_,rfl,?_⟩
  obtain ⟨a,D,_⟩:=SlV.at j.sl (i:=k) gz0
  refine ⟨a,D,o,o,j.storeN (i:=k) D8 D o ?_⟩
  intro h' F
  rw [B5 (n:=(k:Int)+1) o o]
  refine ⟨⟨k+1,_,_,rfl,o,by simp_all,p.set (W5 _),o,F,?_,?_⟩,by simp only [iAt,aI,aR];omega⟩
  ·rw [E2 o];exact E6 d
  ·rw [C9 o,F5,aP,aK o,bH,H,T,<- q,C,key u O r]
   grind
 ·have L:k=ys.length:=o
  subst L
  rw [cC] at C
  refine ⟨fun l x=>∃ (k:Nat) (c:Int) (zs:List Int),l=[U c,I k]/\ys.length<=k/\k<=xs.length/\zs.length=xs.length/\Dig b64 zs/\(0<=c/\c<=1)/\Win .u64 x g b e A pre zs post/\zs.drop k=xs.drop k/\val b64 (zs.take k)=val b64 (xs.take k)-val b64 ys+c*b64^k,fun l _=>xs.length-(iAt l 1).toNat,⟨ys.length,c,zs,rfl,o,o,m,p,r,j,d,C⟩,?_⟩
  rintro c i x ⟨k,G,zs,N,S,R,m,p,r,j,d,C⟩
  obtain ⟨rfl,rfl⟩:c=G/\i=(k:Int):=gz0
  have E:=F7 b64 zs (i:=k) o
  have s:=F7 b64 xs (i:=k) o
  refine H9 (fun Q=>B4 (fun M=>?_) (fun M=>?_)) (fun Q=>?_)
  ·have u:=I5 p k
   have q:=F9 d
   have H:=C5 b64 xs k
   refine j.sl.load m.symm o o ?_
   simp only [aC]
   refine Y8 u o r ⟨_,_,rfl,?_⟩
   obtain ⟨a,D,_⟩:=SlV.at j.sl (i:=k) gz0
   refine ⟨a,D,o,o,j.storeN (i:=k) D8 D o ?_⟩
   intro h' F
   rw [B5 (n:=(k:Int)+1) o o]
   refine ⟨⟨k+1,_,_,rfl,o,o,gz0,p.set (W5 _),o,F,?_,?_⟩,by simp only [iAt,aI,aR];omega⟩
   ·rw [E2 o];exact E6 d
   ·rw [C9 o,F5,aP,aK o,bH,H,<- q,C,key u (y:=0) o r]
    grind
  ·exfalso
   have:=J4 dc (p.take xs.length)
   grind
  grind
def Nn{x y:Int}{an bn:Nat}(ma:Mw h A an x)(mb:Mw h B bn y)(hab:bn<=an)(hl:an<=30000000000000)(hb0:bn≠0)(hK:∀ A' m c' h',h.le h'->m<=c'->Mw h' A' m (x+y)->K (.slice A' m c') h'):
 wpH prog (cN 89 (I (B7 ((an:Int)+1))) (I (B7 ((an:Int)+1)))) (fun v hp1=>∃ (t20A:Option bW) (t20n:Nat) (t20c:Nat),v= .slice t20A t20n t20c/\∀ ty,wpH prog (cA #[89,89] ty #[.slice t20A t20n t20c,.slice A an ac]) (fun v1 hp2=>∃ (t23:Int),v1=I t23/\aH prog 248 #[.slice t20A t20n t20c,.slice B bn bc] hp2 (fun r hp3=>r= .tuple #[]/\aH prog 221 #[.slice t20A t20n t20c] hp3 (fun r1 hp4=>∃ (t28A:Option bW) (t28n:Nat) (t28c:Nat),r1= .slice t28A t28n t28c/\K (.slice t28A t28n t28c) hp4))) hp1) h:=by
 obtain ⟨xs,rfl,D,p,N,rfl⟩:=ma
 obtain ⟨M,rfl,w,l,H,rfl⟩:=mb
 have F:B7 ((xs.length:Int)+1)=((xs.length+1:Nat):Int):=by rw [B5 o o];omega
 rw [F]
 refine K6 I6 o o o ?_
 intro b u
 refine ⟨_,_,_,rfl,fun ty=>?_⟩
 have k:=Win.blk .u64 230 u (aE (xs.length+1) 0)
 refine S6 I6 k (by simp) (SlI.mono k.le D) rfl (by simp) ?_
 intro L i
 refine ⟨_,rfl,?_⟩
 have a:(aE (xs.length+1) (0:Int)).drop xs.length=[0]:=by simp_all
 rw [a] at i
 have d:val b64 (xs++[0])=val b64 xs:=by rw [F5];omega
 have q:=J4 dc p
 have C:=J4 dc l
 have s:=C8 (B:=b64) dc hab
 refine Bt i (by simp) w rfl (p.append (Dig.one dc)) l gz0 ?_ gz0 ?_
 ·grind
 intro zs G z e g n
 refine ⟨rfl,?_⟩
 have c:zs.length=xs.length+1:=gz0
 rw [<- c]
 refine J3 n.sl e o o ?_
 intro m E j
 rw [g,d] at j
 exact ⟨_,_,_,rfl,hK _ _ _ _ n.le E j⟩
def K7{x y:Int}{an bn:Nat}(ma:Mw h A an x)(mb:Mw h B bn y)(ha:an<=ac)(hb:bn<=bc)(hl:an<=30000000000000)(hl2:bn<=30000000000000)(hK:∀ A' m c' h',h.le h'->m<=c'->Mw h' A' m (x+y)->K (.slice A' m c') h'):aH prog 198 #[.slice A an ac,.slice B bn bc] h K:=by
 refine (fnk func198 (cs:=[(3,[0,1],[],[.slice none 0 0,.slice none 0 0])]) (wr:=[248])) ?_
 refine ⟨fun l h'=>h'=h/\∃ (A1 B1:Option bW) (a b c1 c2:Nat) (k n:Int),l=[.slice A1 a c1,.slice B1 b c2]/\Mw h A1 a k/\Mw h B1 b n/\b<=a/\a<=30000000000000/\a<=c1/\k+n=x+y,B4 (fun s=>?_) (fun s=>?_),?_⟩
 ·grind
 ·grind
 ·rintro A1 a c1 B1 b c2 C ⟨rfl,A1',B1',e,d,i,g,k,n,u,r,q,z,j,p,c⟩
  obtain ⟨⟨rfl,rfl,rfl⟩,rfl,rfl,rfl⟩:(A1=A1'/\a=e/\c1=i)/\B1=B1'/\b=d/\c2=g:=gz0
  rw [<- c] at hK
  refine E4 (fun w=>?_) (fun w=>?_)
  ·have:=(q.len_zero dc).2 o
   subst this
   rw [dY] at hK
   exact hK _ _ _ _ (B3 _) p r
  ·refine Cb _ (Nn (ac:=c1) (bc:=c2) r q z j o hK) ?_
   grind
def E7{x y:Int}{an bn:Nat}(ma:Mw h A an x)(mb:Mw h B bn y)(ha:an<=ac)(hl:an<=17500000000000)(hxy:y<=x)(hK:∀ A' m c' h',h.le h'->m<=c'->Mw h' A' m (x-y)->K (.slice A' m c') h'):aH prog 199 #[.slice A an ac,.slice B bn bc] h K:=by
 have g:bn<=an:=mb.len_le dc (cZ hxy (ma.lt dc))
 refine (fnk func199 (wr:=[249])) ?_
 refine E4 (fun p=>?_) (fun p=>?_)
 ·have:=(mb.len_zero dc).2 o
  subst this
  rw [Int.sub_zero] at hK
  exact hK _ _ _ _ (B3 _) ha ma
 ·obtain ⟨xs,rfl,r,u,G,rfl⟩:=ma
  obtain ⟨F,rfl,q,s,z,rfl⟩:=mb
  refine W8 r rfl o ?_
  intro A1 c1 C D k e
  refine ⟨_,_,_,rfl,?_⟩
  obtain ⟨b,j,n⟩:=e.win gz0
  refine V8 n rfl (q.mono k) rfl u s g hxy o ?_
  intro zs w c a d l
  refine ⟨rfl,?_⟩
  rw [<- c]
  refine J3 l.sl a (by have:=e.2.1;omega) o ?_
  intro m E i
  rw [d] at i
  exact ⟨_,_,_,rfl,hK _ _ _ _ (A0 k l.le) (by have:=e.2.1;omega) i⟩
def Bs{zs xs:List Int}{an bn:Nat}{wd:Int}(w:Win .u64 h g b e A pre zs post)(hn:an=zs.length)(sx:SlI .u64 g B xs)(hm:bn=xs.length)(dz:Dig b64 zs)(dx:Dig b64 xs)(hle:zs.length=xs.length)(hw:0<=wd/\wd<18446744073709551616)(hl:xs.length<=100000000000000)
 (hK:∀ zs' c h',zs'.length=zs.length->Dig b64 zs'->(0<=c/\c<18446744073709551616)->val b64 zs'+c*b64^zs.length=val b64 zs+val b64 xs*wd->Win .u64 h' g b e A pre zs' post->K (U c) h'):aH prog 246 #[.slice A an ac,.slice B bn bc,U wd] h K:=by
 subst hn hm
 refine (fnk func246 [(3,[7,16],[],[U 0,I 0])]) ?_
 refine ⟨fun l s=>∃ (k:Nat) (c:Int) (d:List Int),l=[U c,I k]/\k<=xs.length/\d.length=zs.length/\Dig b64 d/\(0<=c/\c<18446744073709551616)/\Win .u64 s g b e A pre d post/\d.drop k=zs.drop k/\val b64 (d.take k)+c*b64^k=val b64 (zs.take k)+val b64 (xs.take k)*wd,fun l _=>xs.length-(iAt l 1).toNat,⟨0,0,zs,rfl,o,rfl,dz,o,w,rfl,by simp [val]⟩,?_⟩
 rintro c i s ⟨k,C,d,G,L,p,r,H,m,j,M⟩
 obtain ⟨rfl,rfl⟩:c=C/\i=(k:Int):=gz0
 refine B4 (fun E=>?_) (fun E=>?_)
 ·have u:=I5 dx k
  have y:=I5 r k
  have q:=F9 j
  have D:=C5 b64 xs k
  have F:=C5 b64 zs k
  have hm:0<=xs.getD k 0*wd/\xs.getD k 0*wd<=18446744073709551615*18446744073709551615:=⟨aS u.1 hw.1,cY o o hw.1 dc⟩
  refine (sx.mono m.le).load rfl o o ?_
  rw [aC]
  refine Ep u hw ⟨_,_,rfl,?_⟩
  generalize hmm:xs.getD k 0*wd=mm at *
  refine T9 o H o ⟨_,_,rfl,?_⟩
  refine m.sl.load p.symm o o ?_
  rw [aC]
  refine T9 y o o ⟨_,_,rfl,?_⟩
  obtain ⟨a,x,_⟩:=SlV.at m.sl (i:=k) gz0
  refine ⟨a,x,o,o,m.storeN (i:=k) D8 x o ?_⟩
  intro h' z
  rw [B5 (n:=(k:Int)+1) o o]
  rw [C0 (n:=mm/18446744073709551616+(mm%18446744073709551616+c+0)/18446744073709551616) o o]
  rw [C0 o o]
  refine ⟨⟨k+1,_,_,rfl,o,gz0,r.set (W5 _),o,z,?_,?_⟩,by simp only [iAt,aI,aR];omega⟩
  ·rw [E2 o];exact E6 j
  ·rw [C9 o,F5,aP,aK o,bH,D,F,<- q]
   grind
 grind
def Co{zs xs:List Int}{an bn:Nat}{wd:Int}(w:Win .u64 h g b e A pre zs post)(hn:an=zs.length)(sx:SlI .u64 g B xs)(hm:bn=xs.length)(dz:Dig b64 zs)(dx:Dig b64 xs)(hle:zs.length=xs.length)(hw:0<=wd/\wd<18446744073709551616)(hl:xs.length<=100000000000000)
 (hK:∀ zs' c h',zs'.length=zs.length->Dig b64 zs'->(0<=c/\c<18446744073709551616)->val b64 zs'=val b64 zs-val b64 xs*wd+c*b64^zs.length->Win .u64 h' g b e A pre zs' post->K (U c) h'):aH prog 284 #[.slice A an ac,.slice B bn bc,U wd] h K:=by
 subst hn hm
 refine (fnk func284 [(3,[7,16],[],[U 0,I 0])]) ?_
 refine ⟨fun l s=>∃ (k:Nat) (c:Int) (d:List Int),l=[U c,I k]/\k<=xs.length/\d.length=zs.length/\Dig b64 d/\(0<=c/\c<18446744073709551616)/\Win .u64 s g b e A pre d post/\d.drop k=zs.drop k/\val b64 (d.take k)=val b64 (zs.take k)-val b64 (xs.take k)*wd+c*b64^k,fun l _=>xs.length-(iAt l 1).toNat,⟨0,0,zs,rfl,o,rfl,dz,o,w,rfl,by simp [val]⟩,?_⟩
 rintro c i s ⟨k,C,d,H,M,p,r,L,m,j,G⟩
 obtain ⟨rfl,rfl⟩:c=C/\i=(k:Int):=gz0
 refine B4 (fun E=>?_) (fun E=>?_)
 ·have u:=I5 dx k
  have y:=I5 r k
  have q:=F9 j
  have D:=C5 b64 xs k
  have F:=C5 b64 zs k
  have hm:0<=xs.getD k 0*wd/\xs.getD k 0*wd<=18446744073709551615*18446744073709551615:=⟨aS u.1 hw.1,cY o o hw.1 dc⟩
  refine (sx.mono m.le).load rfl o o ?_
  rw [aC]
  refine Ep u hw ⟨_,_,rfl,?_⟩
  generalize hmm:xs.getD k 0*wd=mm at *
  refine T9 o L o ⟨_,_,rfl,?_⟩
  refine m.sl.load p.symm o o ?_
  rw [aC]
  refine Y8 y o o ⟨_,_,rfl,?_⟩
  obtain ⟨a,x,_⟩:=SlV.at m.sl (i:=k) gz0
  refine ⟨a,x,o,o,m.storeN (i:=k) D8 x o ?_⟩
  intro h' z
  rw [B5 (n:=(k:Int)+1) o o]
  rw [C0 (n:=mm/18446744073709551616+(mm%18446744073709551616+c+0)/18446744073709551616) o o]
  rw [C0 o o]
  refine ⟨⟨k+1,_,_,rfl,o,gz0,r.set (W5 _),o,z,?_,?_⟩,by simp only [iAt,aI,aR];omega⟩
  ·rw [E2 o];exact E6 j
  ·rw [C9 o,F5,aP,aK o,bH,D,F,<- q,G]
   have key:(d.getD k 0-(mm%18446744073709551616+c+0)%18446744073709551616-0)%18446744073709551616=d.getD k 0-mm-c+18446744073709551616*(mm/18446744073709551616+(mm%18446744073709551616+c+0)/18446744073709551616+(if d.getD k 0-(mm%18446744073709551616+c+0)%18446744073709551616-0<0 then 1 else 0)):=o
   grind
 grind
end
def Kn{x z:Int}{s:Nat}(hs:s<=64)(_hx:0<=x/\x<18446744073709551616)(hz:0<=z/\z<(2:Int)^s):
 bor .u64 z (x*2^s%18446744073709551616)=z+x*2^s%18446744073709551616/\z+x*2^s%18446744073709551616<18446744073709551616/\x*2^s%18446744073709551616=2^s*(x%2^(64-s)):=by
 have i:=Q0 hs
 have c:0<(2:Int)^s:=bK dc
 have l:0<(2:Int)^(64-s):=bK dc
 have a:z<18446744073709551616:=by
  have:(2:Int)^s*1<=2^s*2^(64-s):=aG o o
  omega
 have j:x*2^s%18446744073709551616=2^s*(x%2^(64-s)):=by
  rw [<- i,bA x,Int.mul_emod_mul_of_pos _ _ c]
 have e:=W5 (x*2^s)
 have k:0<=x%2^(64-s):=aU _ o
 have g:(x*2^s%18446744073709551616).toNat=2^s*(x%2^(64-s)).toNat:=by
  grind
 have d:z.toNat<2^s:=by
  grind
 have b:bor .u64 z (x*2^s%18446744073709551616)=z+x*2^s%18446744073709551616:=by
  rw [Vm ⟨hz.1,a⟩ e,g,Nat.or_comm,A2k d,<- g]
  omega
 refine ⟨b,?_,j⟩
 rw [<- b,Vm ⟨hz.1,a⟩ e]
 have:z.toNat ||| (x*2^s%18446744073709551616).toNat<2^64:=Nat.or_lt_two_pow o o
 omega
def Bh(k:Nat):b64^k=(2:Int)^(64*k):=by
 rw [show b64=(2:Int)^64 from dc,<- Int.pow_mul]
section
variable {h g:aW} {K:VP} {A B:Option bW} {ac bc:Nat}
def N4{x:Int}{an s:Nat}(ma:Mw h A an x)(ha:an<=ac)(hl:an<=20000000000000)(hs:s<=100000000000000)(hK:∀ A' m c' h',h.le h'->m<=c'->Mw h' A' m (x*2^s)->K (.slice A' m c') h'):aH prog 276 #[.slice A an ac,U s] h K:=by
 have j:=ma.len_zero dc
 refine (fnk func276 [(6,[31],[],[I 0])]) ?_
 refine E4 (fun D=>?_) (fun D=>E4 (fun g=>?_) (fun g=>?_))
 ·have:=j.2 o
  subst this
  rw [dI] at hK
  exact hK _ _ _ _ (B3 _) ha ma
 ·have:s=0:=o
  subst this
  rw [eU,Int.mul_one] at hK
  exact hK _ _ _ _ (B3 _) ha ma
 ·obtain ⟨xs,rfl,W,dx,nx,rfl⟩:=ma
  obtain ⟨k0,hk0⟩:∃ k0,k0=s/64:=⟨_,rfl⟩
  obtain ⟨r,hr⟩:∃ r,r=s%64:=⟨_,rfl⟩
  have ed:B7 (C4 (aF (s:Int) 64))=(k0:Int):=by
   rw [bC o,C0 o o,B5 o o];omega
  have S:aL (s:Int) 64=(r:Int):=gz0
  have C:C4 ((64:Int)-(r:Int))=((64-r:Nat):Int):=by rw [C0 o o];omega
  simp only [ed,S,C,aC]
  have e1:B7 (B7 ((xs.length:Int)+k0)+1)=((xs.length+k0+1:Nat):Int):=by rw [B5 (n:=(xs.length:Int)+k0) o o,B5 o o];omega
  rw [e1]
  refine K6 I6 o o o ?_
  intro b E
  rw [aC]
  refine ⟨_,_,_,rfl,?_⟩
  have aa:0<(2:Int)^r:=bK dc
  have p:0<(2:Int)^(64-r):=bK dc
  have M:=Q0 (s:=r) o
  refine ⟨fun l h'=>∃ (k:Nat) (zs:List Int),l=[I k]/\k<=xs.length/\zs.length=xs.length+k0+1/\Dig b64 zs/\h'=blk .u64 230 h b zs/\zs.drop (k+k0+1)=aE (xs.length-k) 0/\zs.getD (k+k0) 0<2^r/\val b64 (zs.take (k+k0+1))=val b64 (xs.take k)*2^s,fun l _=>xs.length-(iAt l 0).toNat,⟨0,_,rfl,o,by simp,H7 dc _,rfl,?_,?_,?_⟩,?_⟩
  ·grind
  ·grind
  ·rw [cK,V6];simp [val]
  rintro i hp ⟨k,zs,ad,hk,a,c,rfl,q,F,y⟩
  obtain rfl:i=(k:Int):=gz0
  have u:=Lc (k:=.u64) (e:=230) E zs
  refine B4 (fun g=>?_) (fun g=>?_)
  ·have w:=I5 dx k
   have z:=I5 c (k+k0)
   have G:=C5 b64 xs k
   have X:=C5 b64 zs (k+k0)
   have Q:B7 ((k:Int)+k0)=((k+k0:Nat):Int):=by rw [B5 o o];omega
   have e3:B7 (((k+k0:Nat):Int)+1)=((k+k0+1:Nat):Int):=by rw [B5 o o];omega
   rw [Q,e3]
   refine (W.mono u).load rfl o o ?_
   refine (Jj .u64 230 h b zs).load a.symm o o ?_
   simp only [aC]
   refine B4 (fun e=>absurd e o) (fun _=>?_)
   refine ⟨_,rfl,o,o,?_⟩
   obtain ⟨R,O,o3⟩:=Kn (s:=r) o w ⟨z.1,F⟩
   rw [aK (show r<=64 from o),F0,R,A02 (show 64-r<=64 from o)]
   have N:=W5 (xs.getD k 0*2^r)
   refine W9 (zs:=zs) (i:=k+k0) D8 o ?_
   refine B4 (fun e=>absurd e o) (fun _=>?_)
   refine ⟨_,rfl,o,o,?_⟩
   refine W9 (zs:=zs.set (k+k0) (zs.getD (k+k0) 0+xs.getD k 0*2^r%18446744073709551616)) (i:=k+k0+1) D8 gz0 ?_
   have L:0<=xs.getD k 0/2^(64-r)/\xs.getD k 0/2^(64-r)<2^r:=⟨bL w.1 o,bD p o⟩
   have T:(2:Int)^r<=9223372036854775808:=by
    have:=C8 (B:=2) dc (show r<=63 from o)
    omega
   rw [B5 (n:=(k:Int)+1) o o]
   refine ⟨⟨k+1,(zs.set (k+k0) (zs.getD (k+k0) 0+xs.getD k 0*2^r%18446744073709551616)).set (k+k0+1) (xs.getD k 0/2^(64-r)),rfl,o,gz0,(c.set ⟨o,O⟩).set ⟨L.1,gz0⟩,rfl,?_,?_,?_⟩,by simp only [iAt,aI];omega⟩
   ·rw [show k+1+k0+1=(k+k0+1)+1 from o,E2 o,E2 o,<- cO,q,bJ]
    congr 1
   ·grind
   ·rw [show k+1+k0+1=(k+k0+1)+1 from o,C9 gz0,F5,C9 o,F5]
    simp only [aP,bB,List.length_singleton]
    rw [aK (show k+k0<=zs.length from o),bH,G]
    rw [X] at y
    have ab:(2:Int)^s=b64^k0*2^r:=by
     rw [Bh,<- aX];congr 1;omega
    have V:b64^(k+k0)=b64^k*b64^k0:=aX _ _ _
    have H:=aJ (xs.getD k 0) (2^(64-r))
    grind
  ·have d:k=xs.length:=o
   subst d
   rw [cC,aY o] at y
   rw [<- a]
   refine J3 (Jj _ _ _ _ _) c (bG _) o ?_
   grind
def Aa{x:Int}{an s:Nat}(ma:Mw h A an x)(hl:an<=20000000000000)(hs:s<=1000000000000000)(hK:∀ A' m c' h',h.le h'->m<=c'->Mw h' A' m (x/2^s)->K (.slice A' m c') h'):aH prog 281 #[.slice A an ac,U s] h K:=by
 have O:=ma.nonneg dc
 have W:=ma.lt dc
 refine (fnk func281 [(6,[27],[],[I 0])]) ?_
 obtain ⟨k0,hk0⟩:∃ k0,k0=s/64:=⟨_,rfl⟩
 obtain ⟨r,hr⟩:∃ r,r=s%64:=⟨_,rfl⟩
 have N:C4 (aF (s:Int) 64)=(k0:Int):=by
  rw [bC o,C0 o o];omega
 have y:B7 (k0:Int)=(k0:Int):=B5 o o
 have em:aL (s:Int) 64=(r:Int):=gz0
 have er:C4 ((64:Int)-(r:Int))=((64-r:Nat):Int):=by rw [C0 o o];omega
 have en:C4 (an:Int)=(an:Int):=C0 o o
 simp only [N,y,em,er,en,aC]
 have j:(2:Int)^s=b64^k0*2^r:=by
  rw [Bh,<- aX];grind
 refine B4 (fun h1=>?_) (fun h1=>?_)
 ·have:x/2^s=0:=by
   apply bI O
   rw [j]
   have F:=C8 (B:=b64) dc (show an<=k0 from o)
   have Q:b64^k0*1<=b64^k0*2^r:=aG (by have:0<(2:Int)^r:=bK dc;omega) (aO (D4 dc _))
   omega
  rw [this] at hK
  exact hK _ _ _ _ (B3 _) (bG _) Mag.zero
 ·obtain ⟨xs,rfl,T,p,nx,rfl⟩:=ma
  have e1:B7 ((xs.length:Int)-k0)=((xs.length-k0:Nat):Int):=by rw [B5 o o];omega
  rw [e1]
  refine K6 I6 o o o ?_
  intro b hb
  rw [aC]
  refine ⟨_,_,_,rfl,?_⟩
  have S:0<(2:Int)^r:=bK dc
  have g:=Q0 (s:=r) o
  have M:0<(2:Int)^(64-r):=bK dc
  have ad:(xs.drop k0).length=xs.length-k0:=cD
  have c:∀ i,(xs.drop k0).getD i 0=xs.getD (k0+i) 0:=fun i=>Yo
  refine ⟨fun l h'=>∃ (k:Nat) (zs:List Int),l=[I k]/\k<=xs.length-k0/\zs.length=xs.length-k0/\Dig b64 zs/\h'=blk .u64 230 h b zs/\2^r*val b64 (zs.take k)+(xs.drop k0).getD 0 0%2^r=val b64 ((xs.drop k0).take k)+b64^k*((xs.drop k0).getD k 0%2^r),fun l _=>xs.length-(iAt l 0).toNat,⟨0,_,rfl,o,by simp,H7 dc _,rfl,by simp [val]⟩,?_⟩
  rintro i ab ⟨k,zs,ah,hk,E,q,rfl,V⟩
  obtain rfl:i=(k:Int):=gz0
  have n:∀ zs,h.le (blk .u64 230 h b zs):=fun zs=>Lc (k:=.u64) (e:=230) hb zs
  have gz:=I5 (p.drop k0) k
  refine B4 (fun h2=>?_) (fun h2=>?_)
  ·have e2:B7 ((k:Int)+k0)=((k0+k:Nat):Int):=by rw [B5 o o];omega
   have e3:B7 (((k0+k:Nat):Int)+1)=((k0+(k+1):Nat):Int):=by rw [B5 o o];omega
   rw [e2,e3]
   refine (T.mono (n zs)).load rfl o o ?_
   refine B4 (fun e=>absurd e o) (fun _=>?_)
   refine ⟨_,rfl,o,o,?_⟩
   simp only [aC]
   rw [<- c k,A02 (show r<=64 from o)]
   have d:0<=(xs.drop k0).getD k 0/2^r:=bL gz.1 o
   have w:(xs.drop k0).getD k 0/2^r<2^(64-r):=by
    apply bD S
    grind
   have R:(2:Int)^(64-r)<=18446744073709551616:=by
    rw [<- g]
    have:=aD (show 1<=(2:Int)^r from o) (aO M);omega
   refine W9 (zs:=zs) (i:=k) D8 o ?_
   have d1:Dig b64 (zs.set k ((xs.drop k0).getD k 0/2^r)):=q.set ⟨d,gz0⟩
   have l1:(zs.set k ((xs.drop k0).getD k 0/2^r)).length=xs.length-k0:=gz0
   have g1:(zs.set k ((xs.drop k0).getD k 0/2^r)).getD k 0=(xs.drop k0).getD k 0/2^r:=gz0
   have vr:=C5 b64 (xs.drop k0) k
   have a:∀ z:Int,2^r*z=(xs.drop k0).getD k 0-(xs.drop k0).getD k 0%2^r+18446744073709551616*((xs.drop k0).getD (k+1) 0%2^r)->
    2^r*val b64 ((zs.set k z).take (k+1))+(xs.drop k0).getD 0 0%2^r=val b64 ((xs.drop k0).take (k+1))+b64^(k+1)*((xs.drop k0).getD (k+1) 0%2^r):=by
    intro z ez
    rw [C9 o,F5,aP,aK o,vr,bH]
    grind
   have ae:=aJ ((xs.drop k0).getD k 0) (2^r)
   have D:B7 ((k:Int)+1)=((k+1:Nat):Int):=by rw [B5 o o];omega
   rw [D]
   refine B4 (fun h3=>?_) (fun h3=>?_)
   ·have ld:=(Jj .u64 230 h b (zs.set k ((xs.drop k0).getD k 0/2^r)))
    obtain ⟨aa,H,af⟩:=SlV.at ld (i:=k) gz0
    refine ⟨aa,H,o,o,(xs.drop k0).getD k 0/2^r,?_,?_⟩
    ·grind
    refine (T.mono (n _)).load rfl o o ?_
    refine B4 (fun e=>absurd e o) (fun _=>?_)
    refine ⟨_,rfl,o,o,?_⟩
    simp only [aC]
    rw [<- c (k+1)]
    have gr:=I5 (p.drop k0) (k+1)
    obtain ⟨o1,o2,o3⟩:=Kn (s:=64-r) o gr ⟨d,w⟩
    rw [aK (show 64-r<=64 from o),F0,o1]
    refine W9 (zs:=zs.set k ((xs.drop k0).getD k 0/2^r)) (i:=k) D8 o ?_
    rw [List.set_set]
    have ag:=W5 ((xs.drop k0).getD (k+1) 0*2^(64-r))
    refine ⟨⟨k+1,zs.set k ((xs.drop k0).getD k 0/2^r+(xs.drop k0).getD (k+1) 0*2^(64-r)%18446744073709551616),rfl,o,gz0,q.set ⟨o,o2⟩,rfl,a _ ?_⟩,by simp only [iAt,aI];omega⟩
    rw [o3,show 64-(64-r)=r from o,cU,<- cR,g]
    omega
   ·have u:(xs.drop k0).getD (k+1) 0=0:=gz0
    refine ⟨⟨k+1,zs.set k ((xs.drop k0).getD k 0/2^r),rfl,o,l1,d1,rfl,a _ ?_⟩,by simp only [iAt,aI];omega⟩
    rw [u,eJ,dV,dY];omega
  ·have C:k=xs.length-k0:=o
   subst C
   have u:(xs.drop k0).getD (xs.length-k0) 0=0:=gz0
   rw [u,eJ,dV,dY,aY o,aY o] at V
   have G:=aU ((xs.drop k0).getD 0 0) (show (2:Int)^r≠0 from o)
   have L:=aM ((xs.drop k0).getD 0 0) S
   have ai:val b64 xs/2^s=val b64 zs:=by
    have X:=F7 b64 xs (i:=k0) o
    have F:=J4 dc (p.take k0)
    have Q:=C3 dc (p.take k0)
    rw [aP,aK o] at F
    rw [j,<- dH (aO (D4 dc _)),X,dP _ _ o,bI Q F,cI,<- V,dZ,dP _ _ o,bI G L,cI]
   rw [<- E]
   refine J3 (Jj _ _ _ _ _) q (bG _) o ?_
   grind
end
def T1(B:Int)(xs:List Int)(n:Nat):val B (xs++aE n 0)=val B xs:=by rw [E5,V6];omega
def Eo{xs:List Int}{k:Nat}(h:Norm xs)(hk:k<xs.length):Norm (xs.drop k):=by
 unfold Norm at *
 grind
def Mw.of{h:aW}{A:Option bW}{xs:List Int}(s:SlI .u64 h A xs)(d:Dig b64 xs)(n:Norm xs):Mw h A xs.length (val b64 xs):=⟨xs,rfl,s,d,n,rfl⟩
def Ni{k:dF}{h:aW}{A:Option bW}{xs:List Int}(s:SlI k h A xs){c l:Nat}(hl:l<=xs.length)(hc:xs.length<=c):SlI k h (Q3 A c l 1) (xs.drop l):=by
 have:=s.cut (c:=c) (l:=l) (m:=xs.length) hl (bG _) hc
 rwa [aY gz0] at this
def Cl{k:dF}{h:aW}{A:Option bW}{xs:List Int}(s:SlI k h A xs){c m:Nat}(hm:m<=xs.length)(hc:xs.length<=c):SlI k h A (xs.take m):=by
 have:=s.cut (c:=c) (l:=0) (m:=m) o hm hc
 simpa [I7] using this
def Q9{h:aW}{K:VP}{A:Option bW}{ac n:Nat}{v:Int}{xs:List Int}(s:SlI .u64 h A xs)(hd:Dig b64 xs)(hn:n=xs.length)(hv:val b64 xs=v)(hc:n<=ac)(hl:n<=100000000000000)(hK:∀ m,m<=n->Mw h A m v->K (.slice A m ac) h):aH prog 221 #[.slice A n ac] h K:=by
 subst hn hv
 exact J3 s hd hc hl hK
def A7m(N:Nat):Prop:=∀ {h:aW} {K:VP} {A B:Option bW} {ac bc an bn:Nat} {x y:Int},an+bn<=N->Mw h A an x->Mw h B bn y->an<=ac->bn<=bc->an<=10000000000000->bn<=10000000000000->
 (∀ A' m c' h',h.le h'->m<=c'->Mw h' A' m (x*y)->K (.slice A' m c') h')->aH prog 197 #[.slice A an ac,.slice B bn bc] h K
section
variable {h g:aW} {K:VP} {A B:Option bW} {ac bc:Nat}
def A5l{xs ys:List Int}{b:Nat}(hb:h b=none)(sx:SlI .u64 h A xs)(dx:Dig b64 xs)(sy:SlI .u64 h B ys)(dy:Dig b64 ys)(hl:xs.length<=10000000000000)(hl2:ys.length<=10000000000000)
 (hK:∀ A' m c' h',h.le h'->m<=c'->Mw h' A' m (val b64 xs*val b64 ys)->K (.slice A' m c') h'):
 X8 prog K A xs.length ac B ys.length (some ⟨b,0,none⟩) (xs.length+ys.length) (xs.length+ys.length) (blk .u64 230 h b (aE (xs.length+ys.length) 0)):=by
 refine ⟨fun l y=>∃ (k:Nat) (zs:List Int),l=[I k]/\k<=ys.length/\zs.length=xs.length+ys.length/\Dig b64 zs/\Win .u64 y h b 230 (some ⟨b,0,none⟩) [] zs []/\zs.drop (k+xs.length)=aE (ys.length-k) 0/\val b64 (zs.take (k+xs.length))=val b64 xs*val b64 (ys.take k),fun l _=>ys.length-(iAt l 0).toNat,⟨0,_,rfl,o,by simp,H7 dc _,Win.blk .u64 230 hb _,?_,?_⟩,?_⟩
 ·grind
 ·rw [cK,V6];simp [val]
 rintro i y ⟨k,zs,Q,T,q,d,w,r,z⟩
 obtain rfl:i=(k:Int):=gz0
 refine B4 (fun F=>?_) (fun F=>?_)
 ·have G:=I5 dy k
  have M:=C5 b64 ys k
  have O:B7 ((k:Int)+xs.length)=((k+xs.length:Nat):Int):=by rw [B5 o o];omega
  rw [O]
  refine (sy.mono w.le).load rfl o o ?_
  refine ⟨⟨o,o⟩,⟨o,o⟩,?_⟩
  have g:((zs.drop k).take (k+xs.length-k)).length=xs.length:=gz0
  refine Bs (w.sub (l:=k) (m:=k+xs.length) (c:=xs.length+ys.length) o o o) o sx rfl ((d.drop k).take _) dx g G o ?_
  intro e c h' x a S E D
  have R:=w.whole (l:=k) (m:=k+xs.length) o o o D
  refine ⟨_,rfl,_,rfl,o,o,?_⟩
  have L:(zs.take k++e++zs.drop (k+xs.length)).length=xs.length+ys.length:=by
   grind
  refine R.storeN (i:=k+xs.length) D8 rfl o ?_
  intro V C
  rw [B5 (n:=(k:Int)+1) o o]
  have j:(zs.take k++e++zs.drop (k+xs.length)).take (k+xs.length)=zs.take k++e:=by
   grind
  have s:(zs.take k++e++zs.drop (k+xs.length)).drop (k+xs.length)=zs.drop (k+xs.length):=by
   grind
  refine ⟨⟨k+1,_,rfl,o,gz0,(((d.take k).append a).append (d.drop _)).set S,C,?_,?_⟩,by simp only [iAt,aI];omega⟩
  ·rw [show k+1+xs.length=(k+xs.length)+1 from o,E2 o,<- cO,s,r,bJ]
   congr 1
  ·rw [show k+1+xs.length=(k+xs.length)+1 from o,C9 o,j,F5,E5,M]
   simp only [bB,aP]
   have H:val b64 (zs.take (k+xs.length))=val b64 (zs.take k)+b64^k*val b64 ((zs.drop k).take (k+xs.length-k)):=by
    rw [show k+xs.length-k=xs.length from o,List.take_add,E5,aP,aK o]
   grind
 ·have p:k=ys.length:=o
  subst p
  rw [cC,aY o] at z
  rw [<- q]
  refine J3 w.sl d (bG _) o ?_
  intro m N u
  rw [z] at u
  exact ⟨_,_,_,rfl,hK _ _ _ _ w.le N u⟩
def Fw{x y:Int}{an bn N:Nat}(ih:A7m N)(hN:2*bn<=N)(ma:Mw h A an x)(mb:Mw h B bn y)(ha:an<=ac)(hbc:bn<=bc)(hl:an<=10000000000000)(hb0:0<bn)(hba:bn<=an)(hK:∀ A' m c' h',h.le h'->m<=c'->Mw h' A' m (x*y)->K (.slice A' m c') h'):aH prog 247 #[.slice A an ac,.slice B bn bc] h K:=by
 have ad:=mb.nonneg dc
 have E:=mb.lt dc
 obtain ⟨xs,rfl,sx,M,nx,rfl⟩:=ma
 refine (fnk func247 [(3,[6],[],[I 0])] (os:=[(6,[0,1,2,3,4,5,6,8,7,9,10])]) (wr:=[248])) ?_
 have e1:B7 ((xs.length:Int)+bn)=((xs.length+bn:Nat):Int):=by rw [B5 oo oo];omega
 rw [e1]
 refine K6 I6 oo oo oo ?_
 intro b hb
 rw [aC]
 refine ⟨_,_,_,rfl,?_⟩
 refine ⟨fun l G=>∃ (k:Nat) (zs:List Int) (g:aW),l=[I k]/\k<=xs.length+bn/\h.le g/\zs.length=xs.length+bn/\Dig b64 zs/\Win .u64 G g b 230 (some ⟨b,0,none⟩) [] zs []/\val b64 zs=val b64 (xs.take k)*y,fun l _=>xs.length+bn-(iAt l 0).toNat,⟨0,_,h,rfl,oo,B3 h,by simp,H7 dc _,Win.blk .u64 230 hb _,by rw [V6];simp [val]⟩,?_⟩
 rintro i G ⟨k,zs,g,au,hk,L,W,u,w,hv⟩
 obtain rfl:i=(k:Int):=gz0
 refine B4 (fun h1=>?_) (fun h1=>?_)
 ·have e2:B7 ((k:Int)+bn)=((k+bn:Nat):Int):=by rw [B5 oo oo];omega
  rw [e2]
  obtain ⟨en,hen⟩:∃ en,en=min xs.length (k+bn):=⟨_,rfl⟩
  have e3:(if (xs.length:Int)<((k+bn:Nat):Int) then (xs.length:Int) else ((k+bn:Nat):Int))=(en:Int):=oo
  rw [e3]
  simp only [aC]
  refine ⟨⟨oo,oo⟩,⟨oo,oo⟩,⟨oo,oo⟩,?_⟩
  have aj:((xs.drop k).take (en-k)).length=en-k:=gz0
  have sp:SlI .u64 g (Q3 A ac k 1) ((xs.drop k).take (en-k)):=(sx.mono L).cut (c:=ac) (l:=k) (m:=en) oo oo ha
  have dp:Dig b64 ((xs.drop k).take (en-k)):=(M.drop k).take _
  have ar:=C3 dc M
  have C:∀ m,m<=en-k->Norm (((xs.drop k).take (en-k)).take m)->val b64 (((xs.drop k).take (en-k)).take m)=val b64 ((xs.drop k).take (en-k))->
   aH prog 197 #[.slice (Q3 A ac k 1) m (ac-k),.slice B bn bc] G (fun O a=>∃ (t38A:Option bW) (t38n:Nat) (t38c:Nat),O= .slice t38A t38n t38c/\Heap.le G a/\aH prog 248 #[.slice (Q3 (some ⟨b,0,none⟩) (xs.length+bn) k 1) (xs.length+bn-k) (xs.length+bn-k),.slice t38A t38n t38c] a (fun r2 q=>r2= .tuple #[]/\(∃ (k_1:Nat) (zs:List Int) (g:aW),[I ((k+bn:Nat):Int)]=[I k_1]/\k_1<=xs.length+bn/\h.le g/\zs.length=xs.length+bn/\Dig b64 zs/\Win .u64 q g b 230 (some ⟨b,0,none⟩) [] zs []/\val b64 zs=val b64 (xs.take k_1)*y)/\xs.length+bn-(iAt [I ((k+bn:Nat):Int)] 0).toNat<xs.length+bn-(iAt [I k] 0).toNat)):=by
   intro m hm s n
   have Mp:Mw g (Q3 A ac k 1) m (val b64 ((xs.drop k).take (en-k))):=⟨((xs.drop k).take (en-k)).take m,gz0,Cl sp (c:=ac) oo oo,dp.take m,s,n⟩
   refine w.call ?_
   refine ih oo Mp (mb.mono L) oo hbc oo oo ?_
   intro A' m' c' g2 l2 am M2 h3 Q
   refine ⟨_,_,_,rfl,?_,?_⟩
   ·rw [w.eq,Q.eq]
    intro kk o d
    by_cases H:kk=b
    ·subst H;rw [B8] at d ⊢;exact d
    ·rw [B6 _ _ H] at d ⊢;exact l2 kk o d
   obtain ⟨e,z,D,F,V,ao⟩:=M2
   have aq:=F7 b64 zs (i:=k) oo
   have ai:=C3 dc (u.take k)
   have R:xs.take en=xs.take k++(xs.drop k).take (en-k):=by
    have:=List.take_add (l:=xs) (i:=k) (j:=en-k)
    rwa [show k+(en-k)=en from oo] at this
   have ah:val b64 (xs.take en)=val b64 (xs.take k)+b64^k*val b64 ((xs.drop k).take (en-k)):=by
    rw [R,E5,aP,aK oo]
   have ae:val b64 zs+b64^k*val b64 e=val b64 (xs.take en)*y:=by
    grind
   have ak:val b64 (xs.take en)*y<b64^(xs.length+bn):=by
    have t1:=J4 dc (M.take en)
    have t2:=C3 dc (M.take en)
    rw [aP,aK oo] at t1
    have t3:val b64 (xs.take en)*y<=b64^en*y:=aD oo ad
    have t4:b64^en*y<b64^en*b64^bn:=bN E (D4 dc en)
    rw [<- aX] at t4
    have t5:=C8 (B:=b64) dc (show en+bn<=xs.length+bn from oo)
    omega
   have af:val b64 (zs.drop k)+val b64 e<b64^(xs.length+bn-k):=by
    have e5:b64^(xs.length+bn)=b64^k*b64^(xs.length+bn-k):=by rw [<- aX];simp_all
    by_cases hc:val b64 (zs.drop k)+val b64 e<b64^(xs.length+bn-k)
    ·exact hc
    ·have:=aG (show b64^(xs.length+bn-k)<=val b64 (zs.drop k)+val b64 e from oo) (aO (D4 (B:=b64) dc k))
     grind
   have ag:=C3 dc (u.drop k)
   have ap:e.length<=xs.length+bn-k:=by
    have Mps:Mw g2 A' e.length (val b64 e):=⟨e,rfl,D,F,V,rfl⟩
    exact Mps.len_le dc oo
   have ws:=Q.sub (l:=k) (m:=xs.length+bn) (c:=xs.length+bn) oo oo oo
   have ab:(zs.drop k).take (xs.length+bn-k)=zs.drop k:=aY gz0
   have S:(zs.drop k).length=xs.length+bn-k:=gz0
   rw [ab] at ws
   refine Bt ws S.symm D z (u.drop k) F oo gz0 oo ?_
   intro us h5 al X aa w5
   have w6:=Q.whole (l:=k) (m:=xs.length+bn) oo oo oo w5
   refine ⟨rfl,⟨k+bn,_,g2,rfl,oo,A0 L l2,?_,((u.take k).append X).append (u.drop _),w6,?_⟩,by simp only [iAt,aI];omega⟩
   ·grind
   ·rw [aZ oo,bY,E5,aP,aK oo,aa]
    grind
  have tr:=V4 (K:=fun r p=>∃ (t36A:Option bW) (t36n:Nat) (t36c:Nat),r= .slice t36A t36n t36c/\Heap.le G p/\aH prog 197 #[.slice t36A t36n t36c,.slice B bn bc] p (fun O a=>∃ (t38A:Option bW) (t38n:Nat) (t38c:Nat),O= .slice t38A t38n t38c/\Heap.le p a/\aH prog 248 #[.slice (Q3 (some ⟨b,0,none⟩) (xs.length+bn) k 1) (xs.length+bn-k) (xs.length+bn-k),.slice t38A t38n t38c] a (fun r2 q=>r2= .tuple #[]/\(∃ (k_1:Nat) (zs:List Int) (g:aW),[I ((k+bn:Nat):Int)]=[I k_1]/\k_1<=xs.length+bn/\h.le g/\zs.length=xs.length+bn/\Dig b64 zs/\Win .u64 q g b 230 (some ⟨b,0,none⟩) [] zs []/\val b64 zs=val b64 (xs.take k_1)*y)/\xs.length+bn-(iAt [I ((k+bn:Nat):Int)] 0).toNat<xs.length+bn-(iAt [I k] 0).toNat))) (ac:=ac-k) (sp.mono w.le) oo oo (fun m hm s n=>⟨_,_,_,rfl,B3 _,C m oo s n⟩)
  grind
 ·have T:xs.take k=xs:=aY oo
  rw [T] at hv
  rw [<- W]
  refine J3 w.sl u (bG _) oo ?_
  intro m hm hM
  rw [hv] at hM
  exact ⟨_,_,_,rfl,hK _ _ _ _ (A0 L w.le) hm hM⟩
def A9x{X0 X1 Y0 Y1 P:Int}(hx0:0<=X0)(hx1:0<=X1)(hy0:0<=Y0)(hy1:0<=Y1):
 X0*Y0<=(X0+X1)*(Y0+Y1)/\X1*Y1<=(X0+X1)*(Y0+Y1)-X0*Y0/\(X0+P*X1)*(Y0+P*Y1)=X0*Y0+P*((X0+X1)*(Y0+Y1)-X0*Y0-X1*Y1)+P*P*(X1*Y1):=by
 have b:=aS hx0 hy1
 have c:=aS hx1 hy0
 have d:=aS hx1 hy1
 grind
def A96:∀ N,A7m N:=by
 intro N
 induction N with
 | zero=>
  intro h K A B ac bc an bn x y hN ma mb ha hb hl F D
  have h0:=ma.len_zero dc
  have hx:x=0:=h0.2 o
  subst hx
  rw [dI] at D
  refine X7 _ _ _ _ _ _ ?_
  unfold U6
  refine ⟨fun l h'=>h'=h/\l=[.slice A an ac,.slice B bn bc],B4 (fun e=>absurd e o) (fun _=>⟨rfl,rfl⟩),?_⟩
  rintro A1 u c1 B1 w c2 hp ⟨rfl,hl⟩
  obtain ⟨⟨rfl,rfl,rfl⟩,rfl,rfl,rfl⟩:(A1=A/\u=an/\c1=ac)/\B1=B/\w=bn/\c2=bc:=gz0
  refine E4 (fun _=>D none 0 0 _ (B3 _) (bG _) Mag.zero) (fun e=>absurd o e)
 | succ N ih=>
  intro h K A B ac bc an bn x y hN ma mb ha hb hl F D
  refine X7 _ _ _ _ _ _ ?_
  unfold U6
  refine ⟨fun l h'=>h'=h/\∃ (A1 B1:Option bW) (u w c1 c2:Nat) (x1 y1:Int),l=[.slice A1 u c1,.slice B1 w c2]/\Mw h A1 u x1/\Mw h B1 w y1/\w<=u/\u<=10000000000000/\u<=c1/\w<=c2/\u+w<=N+1/\x1*y1=x*y,B4 (fun h1=>?_) (fun h1=>?_),?_⟩
  ·grind
  ·grind
  clear ma mb ha hb hl F hN
  rintro A1 u c1 B1 w c2 hp ⟨rfl,A1',B1',a9,ba,bz,be,x1,y1,bw,m1,m2,hn,al,M,V,ck,aq⟩
  obtain ⟨⟨rfl,rfl,rfl⟩,rfl,rfl,rfl⟩:(A1=A1'/\u=a9/\c1=bz)/\B1=B1'/\w=ba/\c2=be:=gz0
  rw [<- aq] at D
  clear bw aq
  have hz:=m2.len_zero dc
  refine E4 (fun h0=>?_) (fun h0=>?_)
  ·have:y1=0:=hz.2 o
   subst this
   rw [dV] at D
   exact D none 0 0 _ (B3 _) (bG _) Mag.zero
  ·refine ⟨fun l h'=>∃ t:Bool,h'=hp/\l=[.bool t]/\(t=true->y1=1),E4 (fun h1=>?_) (fun h1=>⟨false,rfl,rfl,fun e=>by cases e⟩),?_⟩
   ·obtain ⟨g,b0,sy,R,ny,bm⟩:=m2
    refine sy.load b0 o o ⟨_,rfl,rfl,fun e=>?_⟩
    have e1:g.getD 0 0=1:=gz0
    obtain ⟨d,rfl⟩:∃ d,g=[d]:=by
     cases g with
     | nil=>grind
     | cons d r=>
      grind
    rw [<- bm,Y6];assumption
   rintro tb ab ⟨t',rfl,F,O⟩
   obtain rfl:tb=t':=gz0
   refine Br.of (fun e=>?_) (fun _=>?_)
   ·rw [O e,Int.mul_one] at D
    exact D _ _ _ _ (B3 _) M m1
   clear O F
   have eL:B7 ((u:Int)+w)=((u+w:Nat):Int):=by rw [B5 o o];omega
   refine B4 (fun h2=>?_) (fun h2=>?_)
   ·obtain ⟨xs,rfl,sx,W,nx,rfl⟩:=m1
    obtain ⟨g,rfl,sy,R,ny,rfl⟩:=m2
    rw [eL]
    refine K6 I6 o o o ?_
    intro b hb
    rw [aC]
    exact ⟨_,_,_,rfl,A5l hb sx W sy R al o D⟩
   ·obtain ⟨H,hH⟩:∃ H,H=(u+1)/2:=⟨_,rfl⟩
    have eH:B7 (aF (B7 ((u:Int)+1)) 2)=(H:Int):=by
     rw [B5 (n:=(u:Int)+1) o o,bC o,B5 o o];omega
    have bg:B7 ((2:Int)*(H:Int))=((2*H:Nat):Int):=by rw [B5 o o];omega
    simp only [eH,eL,bg,aC]
    refine B4 (fun h3=>?_) (fun h3=>?_)
    ·refine Fw ih o m1 m2 M V al o o ?_
     grind
    ·have a8:=m1.nonneg dc
     have a3:=m1.lt dc
     have ay:=m2.lt dc
     have bx:=m2.nonneg dc
     obtain ⟨xs,rfl,sx,W,nx,rfl⟩:=m1
     obtain ⟨g,rfl,sy,R,ny,rfl⟩:=m2
     have bl:H<xs.length:=o
     have a6:H<g.length:=o
     have ag:=C3 dc (W.take H)
     have au:=C3 dc (W.drop H)
     have am:=C3 dc (R.take H)
     have a1:=C3 dc (R.drop H)
     have b3:=F7 b64 xs (i:=H) o
     have bq:=F7 b64 g (i:=H) o
     have ae:=J4 dc (W.take H)
     have aw:=J4 dc (R.take H)
     rw [aP,aK o] at ae aw
     have C:Mw ab (Q3 A1 c1 H 1) (xs.length-H) (val b64 (xs.drop H)):=by
      have:=Mw.of (Ni sx (c:=c1) (l:=H) o M) (W.drop H) (Eo nx bl)
      grind
     have z:Mw ab (Q3 B1 c2 H 1) (g.length-H) (val b64 (g.drop H)):=by
      have:=Mw.of (Ni sy (c:=c2) (l:=H) o V) (R.drop H) (Eo ny a6)
      grind
     obtain ⟨ka,kb,kc⟩:=A9x (P:=b64^H) ag au am a1
     rw [<- b3,<- bq] at kc
     generalize hX0:val b64 (xs.take H)=X0 at *
     generalize hX1:val b64 (xs.drop H)=X1 at *
     generalize hY0:val b64 (g.take H)=Y0 at *
     generalize hY1:val b64 (g.drop H)=Y1 at *
     rw [I7,I7,bU,bU,bU]
     refine ⟨⟨o,o⟩,⟨o,o⟩,?_⟩
     refine Q9 (Cl sx (c:=c1) (m:=H) o M) (W.take H) gz0 hX0 o o ?_
     intro mx cp MX0
     refine ⟨_,_,_,rfl,B3 _,⟨o,o⟩,⟨o,o⟩,?_⟩
     refine Q9 (Cl sy (c:=c2) (m:=H) o V) (R.take H) gz0 hY0 o o ?_
     intro my cg MY0
     refine ⟨_,_,_,rfl,B3 _,?_⟩
     refine ih o MX0 MY0 o o o o ?_
     intro A3 n3 c3 g3 l3 k3 M3
     refine ⟨_,_,_,rfl,?_⟩
     refine ih o (C.mono l3) (z.mono l3) o o o o ?_
     intro A4 n4 c4 g4 l4 k4 M4
     refine ⟨_,_,_,rfl,?_⟩
     have E:=A0 l3 l4
     refine K7 (MX0.mono E) (C.mono E) o o o o ?_
     intro A5 n5 c5 g5 l5 k5 M5
     refine ⟨_,_,_,rfl,?_⟩
     have ar:=A0 E l5
     refine K7 (MY0.mono ar) (z.mono ar) o o o o ?_
     intro A6 n6 c6 g6 l6 k6 M6
     refine ⟨_,_,_,rfl,?_⟩
     have af:=C.lt dc
     have ah:=z.lt dc
     have bv:=D4 (B:=b64) dc H
     have b5:b64^(H+1)=b64^H*18446744073709551616:=bH _ _
     have ce:n5<=H+1:=by
      refine M5.len_le dc ?_
      have:=C8 (B:=b64) dc (show xs.length-H<=H from o)
      omega
     have b9:n6<=H+1:=by
      refine M6.len_le dc ?_
      have:=C8 (B:=b64) dc (show g.length-H<=H from o)
      omega
     refine ih o (M5.mono l6) M6 k5 k6 o o ?_
     intro A7 n7 c7 g7 l7 k7 M7
     refine ⟨_,_,_,rfl,?_⟩
     have T:=A0 (A0 l5 l6) l7
     have k:∀ {p q:Int} {i j:Nat},0<=p->p<b64^i->0<=q->q<b64^j->p*q<b64^(i+j):=by
      intro p q i j a b c d
      rw [aX]
      have t1:p*q<=b64^i*q:=aD o c
      have t2:b64^i*q<b64^i*b64^j:=bN d (D4 dc i)
      omega
     have b6:n7<=n5+n6:=M7.len_le dc (k (M5.nonneg dc) (M5.lt dc) (M6.nonneg dc) (M6.lt dc))
     refine E7 M7 (M3.mono (A0 l4 T)) k7 o ka ?_
     intro A8 n8 c8 g8 l8 k8 M8
     refine ⟨_,_,_,rfl,?_⟩
     have b8:n8<=n7:=M8.len_le dc (by have:=M7.lt dc;have:=M3.nonneg dc;omega)
     refine E7 M8 (M4.mono (A0 T l8)) k8 o kb ?_
     intro A9 n9 c9 g9 l9 k9 M9
     refine ⟨_,_,_,rfl,?_⟩
     have S:=A0 T (A0 l8 l9)
     have az:ab.le g9:=A0 E S
     refine K6 I6 o o o ?_
     intro b hb
     rw [aC]
     refine ⟨_,_,_,rfl,?_⟩
     have w0:=Win.blk .u64 230 hb (aE (xs.length+g.length) 0)
     have cc:n3<=H+H:=M3.len_le dc (k ag ae am aw)
     have cd:n4<=(xs.length-H)+(g.length-H):=M4.len_le dc (k au af a1 ah)
     obtain ⟨s,ak,bk,a5,cs,ai⟩:=M3.mono (A0 l4 S)
     obtain ⟨hi,aj,bf,br,cr,ao⟩:=M4.mono S
     obtain ⟨Q,av,ax,a2,bu,b7⟩:=M9
     refine S6 I6 w0 (by simp) (bk.mono w0.le) ak (by simp;omega) ?_
     intro cm aa
     refine ⟨_,rfl,⟨o,o⟩,?_⟩
     have b2:s++(aE (xs.length+g.length) (0:Int)).drop s.length=s++aE (xs.length+g.length-s.length) 0:=by rw [bJ]
     rw [b2] at aa
     have X:=aa.sub (l:=2*H) (m:=xs.length+g.length) (c:=xs.length+g.length) o (by simp;omega) (by simp;omega)
     have bp:((s++aE (xs.length+g.length-s.length) (0:Int)).drop (2*H)).take (xs.length+g.length-2*H)=aE (xs.length+g.length-2*H) 0:=by
      rw [eC,aZ o,cL,bJ,cK]
      congr 1;omega
     rw [bp] at X
     refine S6 I6 X (by simp) (bf.mono X.le) aj (by simp;omega) ?_
     intro co a4
     refine ⟨_,rfl,⟨o,o⟩,?_⟩
     rw [bJ] at a4
     have G:=aa.whole (l:=2*H) (m:=xs.length+g.length) o (by simp;omega) (by simp;omega) a4
     have a7:(s++aE (xs.length+g.length-s.length) (0:Int)).take (2*H)=s++aE (2*H-s.length) 0:=by
      rw [List.take_append,aY o,cK]
      congr 2;omega
     have b4:(s++aE (xs.length+g.length-s.length) (0:Int)).drop (xs.length+g.length)=[]:=by
      apply aZ;simp;omega
     rw [a7,b4,bY] at G
     generalize hzs:s++aE (2*H-s.length) (0:Int)++(hi++aE (xs.length+g.length-2*H-hi.length) 0)=zs at G
     have ci:zs.length=xs.length+g.length:=by
      rw [<- hzs];simp;omega
     have L:Dig b64 zs:=by
      rw [<- hzs]
      exact (a5.append (H7 dc _)).append (br.append (H7 dc _))
     have cj:val b64 zs=X0*Y0+b64^H*b64^H*(X1*Y1):=by
      rw [<- hzs,E5,T1,T1,ai,ao]
      have:(s++aE (2*H-s.length) (0:Int)).length=H+H:=by simp;omega
      rw [this,aX]
     have a0:=G.sub (l:=H) (m:=xs.length+g.length) (c:=xs.length+g.length) o o o
     have bd:(zs.drop H).take (xs.length+g.length-H)=zs.drop H:=aY (by rw [cD];omega)
     have bb:(zs.drop H).length=xs.length+g.length-H:=by rw [cD];omega
     rw [bd] at a0
     have bt:=F7 b64 zs (i:=H) o
     have cl:=C3 dc (L.take H)
     have cb:=C3 dc (L.drop H)
     have cf:val b64 xs*val b64 g<b64^(xs.length+g.length):=k a8 a3 bx ay
     have ap:val b64 zs+b64^H*val b64 Q=val b64 xs*val b64 g:=gz0
     have ca:val b64 (zs.drop H)+val b64 Q<b64^(xs.length+g.length-H):=by
      have e5:b64^(xs.length+g.length)=b64^H*b64^(xs.length+g.length-H):=by rw [<- aX];congr 1;omega
      by_cases hc:val b64 (zs.drop H)+val b64 Q<b64^(xs.length+g.length-H)
      ·exact hc
      ·have:=aG (show b64^(xs.length+g.length-H)<=val b64 (zs.drop H)+val b64 Q from o) (aO bv)
       grind
     have cn:Q.length<=xs.length+g.length-H:=by
      have Mmi:Mw g9 A9 Q.length (val b64 Q):=⟨Q,rfl,ax,a2,bu,rfl⟩
      exact Mmi.len_le dc o
     refine Bt a0 bb.symm ax av (L.drop H) a2 o gz0 o ?_
     intro us ch cq bo bj bh
     refine ⟨rfl,?_⟩
     have ad:=G.whole (l:=H) (m:=xs.length+g.length) o o o bh
     rw [aZ (show zs.length<=xs.length+g.length from o),bY] at ad
     have bi:(zs.take H++us).length=xs.length+g.length:=by
      simp only [bB,aP];omega
     rw [<- bi]
     refine J3 ad.sl ((L.take H).append bo) o o ?_
     intro m hm hM
     have b1:val b64 (zs.take H++us)=val b64 xs*val b64 g:=by
      rw [E5,aP,aK o,bj,<- ap,bt];grind
     rw [b1] at hM
     exact ⟨_,_,_,rfl,D _ _ _ _ (A0 az ad.le) hm hM⟩
def D6{x y:Int}{an bn:Nat}(ma:Mw h A an x)(mb:Mw h B bn y)(ha:an<=ac)(hb:bn<=bc)(hl:an<=10000000000000)(hl2:bn<=10000000000000)(hK:∀ A' m c' h',h.le h'->m<=c'->Mw h' A' m (x*y)->K (.slice A' m c') h'):aH prog 197 #[.slice A an ac,.slice B bn bc] h K:=
 A96 _ (bG _) ma mb ha hb hl hl2 hK
end
section
variable {h g:aW} {K:VP} {A B:Option bW} {ac bc:Nat}
def Za{hi lo y:Int}(hhi:0<=hi/\hi<y)(hlo:0<=lo/\lo<18446744073709551616)(hy:y<18446744073709551616)
 (hK:K (.tuple #[U ((hi*18446744073709551616+lo)/y),U ((hi*18446744073709551616+lo)%y)]) h):aH prog 264 #[U hi,U lo,U y] h K:=by
 obtain ⟨n,rfl⟩:∃ n:Nat,y=n:=⟨y.toNat,o⟩
 exact Hu hhi hlo o hK
def Jd{x:Int}{an w:Nat}(ma:Mw h A an x)(hw:0<w/\w<18446744073709551616)(hl:an<=20000000000000)(hK:∀ A' m c' h',h.le h'->m<=c'->m<=an->Mw h' A' m (x/w)->K (.tuple #[.slice A' m c',U (x%w)]) h'):aH prog 282 #[.slice A an ac,U w] h K:=by
 obtain ⟨xs,rfl,B,F,N,rfl⟩:=ma
 refine (fnk func282 [(4,[7,8],[],[U 0,I 0])]) ?_
 refine K6 I6 o o o ?_
 intro b u
 refine ⟨_,_,_,rfl,?_⟩
 refine ⟨fun l h'=>∃ (k:Nat) (r:Int) (zs:List Int),l=[U r,I ((k:Int)-1)]/\k<=xs.length/\zs.length=xs.length/\Dig b64 zs/\(0<=r/\r<w)/\h'=blk .u64 230 h b zs/\val b64 (xs.drop k)=val b64 (zs.drop k)*w+r,fun l _=>(iAt l 1+1).toNat,⟨xs.length,0,_,by rw [B5 o o],o,by simp,H7 dc _,o,rfl,by simp [val]⟩,?_⟩
 rintro r i L ⟨k,s,zs,D,H,g,p,a,rfl,c⟩
 obtain ⟨rfl,rfl⟩:r=s/\i=(k:Int)-1:=gz0
 have n:=Lc (k:=.u64) (e:=230) u zs
 refine B4 (fun z=>?_) (fun z=>?_)
 ·obtain ⟨j,rfl⟩:∃ j,k=j+1:=⟨k-1,o⟩
  have e:((j+1:Nat):Int)-1=(j:Int):=o
  rw [e]
  have C:=I5 F j
  refine (B.mono n).load rfl o o ?_
  refine Hu a C hw.2 ⟨_,_,rfl,?_⟩
  have y:0<=r*18446744073709551616+xs.getD j 0:=o
  have q:0<=(r*18446744073709551616+xs.getD j 0)/w/\(r*18446744073709551616+xs.getD j 0)/w<18446744073709551616:=by
   constructor
   ·exact bL y o
   ·apply bD o
    omega
  refine ⟨_,rfl,o,o,?_⟩
  refine W9 (zs:=zs) (i:=j) D8 o ?_
  rw [B5 o o]
  refine ⟨⟨j,_,zs.set j ((r*18446744073709551616+xs.getD j 0)/w),rfl,o,gz0,p.set q,⟨aU _ o,aM _ o⟩,rfl,?_⟩,by simp only [iAt,aI,aR];omega⟩
  rw [Z7 o,Hp b64 o,c]
  have:=aJ (r*18446744073709551616+xs.getD j 0) w
  simp only [val]
  grind
 ·have d:k=0:=o
  subst d
  rw [eG,eG] at c
  rw [<- g]
  refine J3 (Jj _ _ _ _ _) p (bG _) o ?_
  intro m M G
  have q:val b64 xs/w=val b64 zs:=by
   rw [c,dZ,dJ _ _ o,bI a.1 a.2,cI]
  have E:val b64 xs%w=r:=by
   rw [c,dZ,eF,dX a.1 a.2]
  grind
def Eh{x:Int}{an w:Nat}(ma:Mw h A an x)(hw:0<w/\w<18446744073709551616)(hl:an<=20000000000000)(hK:K (U (x%w)) h):aH prog 235 #[.slice A an ac,U w] h K:=by
 obtain ⟨xs,rfl,s,q,B,rfl⟩:=ma
 refine (fnk func235 [(3,[5,6],[],[U 0,I 0])]) ?_
 refine ⟨fun l d=>∃ (k:Nat) (r:Int) (Q:Int),l=[U r,I ((k:Int)-1)]/\k<=xs.length/\(0<=r/\r<w)/\d=h/\val b64 (xs.drop k)=Q*w+r,fun l _=>(iAt l 1+1).toNat,⟨xs.length,0,0,by rw [B5 o o],o,o,rfl,by simp [val]⟩,?_⟩
 rintro r i y ⟨k,g,Q,n,z,c,rfl,a⟩
 obtain ⟨rfl,rfl⟩:r=g/\i=(k:Int)-1:=gz0
 refine B4 (fun m=>?_) (fun m=>?_)
 ·obtain ⟨j,rfl⟩:∃ j,k=j+1:=⟨k-1,o⟩
  have e:((j+1:Nat):Int)-1=(j:Int):=o
  rw [e]
  have u:=I5 q j
  refine s.load rfl o o ?_
  refine Hu c u hw.2 ⟨_,_,rfl,?_⟩
  rw [B5 o o]
  refine ⟨⟨j,_,b64*Q+(r*18446744073709551616+xs.getD j 0)/w,rfl,o,⟨aU _ o,aM _ o⟩,rfl,?_⟩,by simp only [iAt,aI,aR];omega⟩
  rw [Hp b64 o,a]
  have:=aJ (r*18446744073709551616+xs.getD j 0) w
  grind
 ·have b:k=0:=o
  subst b
  rw [eG] at a
  have p:val b64 xs%w=r:=by
   rw [a,dZ,eF,dX c.1 c.2]
  grind
def Nf{us vs:List Int}{m wn dn:Nat}{X Y:Int}(su:SlI .u64 h A us)(sv:SlI .u64 h B vs)(hwn:wn=us.length)(hdn:dn=vs.length)(du:Dig b64 us)(dv:Dig b64 vs)(hu:us.length=m+3)(hv:vs.length=m+2)(hl:m<=100000000000000)(h1:b64<=2*vs.getD (m+1) 0)(hX:val b64 us=X)(hY:val b64 vs=Y)(hlt:X<Y*b64)
 (hK:∀ q,0<=q->q<18446744073709551616->X<(q+1)*Y->(q-1)*Y<=X->K (U q) h):aH prog 283 #[.slice A wn ac,.slice B dn bc] h K:=by
 subst hwn hdn
 have a:=A7a (B:=b64) dc du dv hu hv h1 gz0
 rw [hX,hY] at a
 have gu:=I5 du (m+2)
 have x:=I5 du (m+1)
 have F:=I5 dv (m+1)
 have p:=a.v2r
 have G:=a.u2r
 refine (fnk func283 [(6,[8,9],[],[U 0,U 0])]) ?_
 have e1:B7 ((vs.length:Int)-1)=((m+1:Nat):Int):=by rw [B5 o o];omega
 have V:B7 ((vs.length:Int)-2)=(m:Int):=by rw [B5 o o];omega
 have e3:((vs.length:Nat):Int)=((m+2:Nat):Int):=o
 rw [e1,V,e3]
 refine sv.load o o o ?_
 refine sv.load o o o ?_
 refine su.load rfl o o ?_
 simp only [aC]
 refine B4 (fun E=>?_) (fun E=>?_)
 ·have ht:=a.top (by
   grind)
  grind
 ·refine su.load rfl o o ?_
  refine su.load rfl o o ?_
  simp only [aC]
  refine Za o x F.2 ⟨_,_,rfl,B3 h,?_⟩
  generalize hT:us.getD (m+2) 0*b64+us.getD (m+1) 0=T at a
  have aa:us.getD (m+2) 0*18446744073709551616+us.getD (m+1) 0=T:=hT
  have z:0<=T:=a.top0
  have w:=a.init
  have H:=aJ T (vs.getD (m+1) 0)
  have R:=aU T (show vs.getD (m+1) 0≠0 from o)
  have S:=aM T (show 0<vs.getD (m+1) 0 from o)
  have u:0<=T/vs.getD (m+1) 0:=bL z o
  have e:T/vs.getD (m+1) 0<18446744073709551616:=by
   apply bD o
   omega
  refine ⟨fun l N=>∃ q r:Int,l=[U q,U r]/\N=h/\(0<=q/\q<18446744073709551616)/\(0<=r/\r<18446744073709551616)/\q*vs.getD (m+1) 0+r=T/\X<(q+1)*Y,fun l _=>(iAt l 0).toNat,⟨_,_,rfl,rfl,⟨u,e⟩,o,gz0,w⟩,?_⟩
  rintro q r s ⟨q',D,M,rfl,g,hr,L,k⟩
  obtain ⟨rfl,rfl⟩:q=q'/\r=D:=gz0
  have hm:0<=q*vs.getD m 0/\q*vs.getD m 0<=18446744073709551615*18446744073709551615:=⟨aS g.1 p.1,cY o gz0 p.1 dc⟩
  have b:q*vs.getD m 0<=r*18446744073709551616+us.getD m 0->K (U q) s:=by
   intro W
   refine hK q g.1 g.2 k (a.up gz0 ?_)
   grind
  have c:¬ (q*vs.getD m 0<=r*18446744073709551616+us.getD m 0)->Br (decide (C4 (r+vs.getD (m+1) 0)<vs.getD (m+1) 0)) (K (U (C4 (q-1))) s) ((∃ q_1 r_1:Int,[U (C4 (q-1)),U (C4 (r+vs.getD (m+1) 0))]=[U q_1,U r_1]/\s=s/\(0<=q_1/\q_1<18446744073709551616)/\(0<=r_1/\r_1<18446744073709551616)/\q_1*vs.getD (m+1) 0+r_1=T/\X<(q_1+1)*Y)/\(iAt [U (C4 (q-1)),U (C4 (r+vs.getD (m+1) 0))] 0).toNat<(iAt [U q,U r] 0).toNat):=by
   intro hf
   have C:X<q*Y:=a.low g.1 gz0
   have e:1<=q:=by
    grind
   have d:X<(q-1+1)*Y:=gz0
   have j:(q-1)*vs.getD (m+1) 0+(r+vs.getD (m+1) 0)=T:=gz0
   rw [C0 (n:=q-1) o o]
   refine B4 (fun i=>?_) (fun i=>?_)
   ·rw [F0] at i
    refine hK (q-1) o o d (a.up gz0 ?_)
    grind
   ·have y:r+vs.getD (m+1) 0<18446744073709551616:=by
     by_cases hc:r+vs.getD (m+1) 0<18446744073709551616
     ·exact hc
     ·rw [F0] at i;omega
    rw [C0 (n:=r+vs.getD (m+1) 0) o y]
    exact ⟨⟨q-1,r+vs.getD (m+1) 0,rfl,rfl,o,o,j,d⟩,by simp only [iAt,aI];omega⟩
  refine Ep g o ⟨_,_,rfl,?_⟩
  have ab:0<=us.getD m 0/\us.getD m 0<18446744073709551616:=I5 du m
  refine B4 (fun i=>b o) (fun i=>?_)
  refine E4 (fun O=>?_) (fun O=>c o)
  refine su.load rfl o o ?_
  rw [aC]
  exact B4 (fun Q=>b o) (fun Q=>c o)
end
section
variable {h g:aW} {K:VP} {bu bq:Nat} {pre qs:List Int} {VA:Option bW} {vs:List Int}
def A7h{n N:Nat}{ws:List Int}{q:Int}{J:LP}(hu:g bu=none)(hq:g bq=none)(hne:bu≠bq)(sv:SlI .u64 g VA vs)(dv:Dig b64 vs)(hn:n=vs.length)(dw:Dig b64 ws)(hN:N=(pre++ws).length)(hl:n<ws.length)(hbig:N<=40000000000000)
 (hD:val b64 (ws.take n)+val b64 vs<2*b64^n) (hD0:b64^n<=val b64 (ws.take n)+val b64 vs) (htop:ws.getD n 0=18446744073709551615)
 (hJ:∀ ws',ws'.length=ws.length->Dig b64 ws'->ws'.drop (n+1)=ws.drop (n+1)->ws'.getD n 0=0->val b64 (ws'.take n)=val b64 (ws.take n)+val b64 vs-b64^n->J [U (C4 (q-1))] (Fh .u64 230 g bu (pre++ws') bq qs)):
 Ah prog n VA n (some ⟨bu,0,none⟩) N (pre.length:Int) q J (Fh .u64 230 g bu (pre++ws) bq qs):=by
 refine ⟨fun l G=>∃ (k:Nat) (c:Int) (zs:List Int),l=[U c,I k]/\k<=n/\zs.length=ws.length/\Dig b64 zs/\(0<=c/\c<=1)/\G=Fh .u64 230 g bu (pre++zs) bq qs/\zs.drop k=ws.drop k/\val b64 (zs.take k)+c*b64^k=val b64 (ws.take k)+val b64 (vs.take k),fun l _=>n-(iAt l 1).toNat,⟨0,0,ws,rfl,o,rfl,dw,o,rfl,rfl,by rfl⟩,?_⟩
 rintro c i V ⟨k,D,zs,R,T,L,r,S,rfl,a,Q⟩
 obtain ⟨rfl,rfl⟩:c=D/\i=(k:Int):=gz0
 have x:g.le (Fh .u64 230 g bu (pre++zs) bq qs):=Zl hu hq hne
 have A:SlI .u64 (Fh .u64 230 g bu (pre++zs) bq qs) (some ⟨bu,0,none⟩) (pre++zs):=Zk hne
 have m:N=(pre++zs).length:=gz0
 have M:N=pre.length+zs.length:=gz0
 have y:B7 ((pre.length:Int)+k)=((k+pre.length:Nat):Int):=by rw [B5 o o];omega
 have u:B7 ((pre.length:Int)+n)=((n+pre.length:Nat):Int):=by rw [B5 o o];omega
 refine B4 (fun H=>?_) (fun H=>?_)
 ·have E:=I5 dv k
  have C:=I5 r k
  have b:=F9 a
  have O:=C5 b64 vs k
  have F:=C5 b64 ws k
  rw [y]
  refine (sv.mono x).load hn o o ?_
  refine A.load m o o ?_
  simp only [aC,Nb]
  refine T9 C E S ⟨_,_,rfl,?_⟩
  refine ⟨_,rfl,o,o,?_⟩
  have p:=Dp (P:=prog) (t:=230) (k:=.u64) (e:=230) (g:=g) (bu:=bu) (bq:=bq) (us:=pre++zs) (qs:=qs) (i:=((k+pre.length:Nat):Int)) (n:=(zs.getD k 0+vs.getD k 0+c)%18446744073709551616) D8 hne o
   (K:=fun _ j=>(∃ (k_1:Nat) (c_1:Int) (zs_1:List Int),[U ((zs.getD k 0+vs.getD k 0+c)/18446744073709551616),I (B7 ((k:Int)+1))]=[U c_1,I k_1]/\k_1<=n/\zs_1.length=ws.length/\Dig b64 zs_1/\(0<=c_1/\c_1<=1)/\j=Fh .u64 230 g bu (pre++zs_1) bq qs/\zs_1.drop k_1=ws.drop k_1/\val b64 (zs_1.take k_1)+c_1*b64^k_1=val b64 (ws.take k_1)+val b64 (vs.take k_1))/\n-(iAt [U ((zs.getD k 0+vs.getD k 0+c)/18446744073709551616),I (B7 ((k:Int)+1))] 1).toNat<n-(iAt [U c,I k] 1).toNat)
  rw [aC] at p
  refine p ?_
  rw [Rh,B5 (n:=(k:Int)+1) o o]
  refine ⟨⟨k+1,_,zs.set k ((zs.getD k 0+vs.getD k 0+c)%18446744073709551616),rfl,o,gz0,r.set (W5 _),o,rfl,?_,?_⟩,by simp only [iAt,aI,aR];omega⟩
  ·rw [E2 o];exact E6 a
  ·rw [C9 o,F5,aP,aK o,bH,Gf,O,F,<- b]
   grind
 ·have s:k=n:=o
  subst s
  have b:=F9 a
  rw [u]
  refine A.load m o o ?_
  rw [aC,Nb,b,htop]
  refine ⟨_,rfl,o,o,?_⟩
  have w:vs.take k=vs:=gz0
  rw [w] at Q
  have B:=J4 dc (r.take k)
  have z:c=1:=by
   grind
  subst z
  have p:=Dp (P:=prog) (t:=230) (k:=.u64) (e:=230) (g:=g) (bu:=bu) (bq:=bq) (us:=pre++zs) (qs:=qs) (i:=((k+pre.length:Nat):Int)) (n:=0) D8 hne o (K:=fun _ d=>J [U (C4 (q-1))] d)
  rw [aC] at p
  refine p ?_
  rw [Rh]
  refine hJ (zs.set k 0) gz0 (r.set dc) (by rw [E2 o];exact E6 a) gz0 ?_
  rw [List.take_set_of_le o]
  omega
end
def A06{g h':aW}{e:cP}{bu bq:Nat}{A:Option bW}{us qs:List Int}(hne:bu≠bq)(w:Win .u64 h' (blk .u64 e g bq qs) bu e A [] us []):h'=Fh .u64 e g bu us bq qs:=by
 rw [Bp hne,w.eq]
 simp [blk]
def A1t{g:aW}{e:cP}{bu bq:Nat}{us qs:List Int}(hu:g bu=none)(hne:bu≠bq):Win .u64 (Fh .u64 e g bu us bq qs) (blk .u64 e g bq qs) bu e (some ⟨bu,0,none⟩) [] us []:=by
 rw [Bp hne]
 refine Win.blk .u64 e ?_ us
 unfold blk;rw [B6 _ _ hne];exact hu
def Py{P:aT}{t:cP}{k:dF}{e:cP}{g:aW}{bu bq:Nat}{us qs:List Int}(one:P.cellsOf t=1/\(P.info? t).isSome=true)(hne:bu≠bq){n:Int}{i:Nat}(hi:i<us.length){K:Unit->aW->Prop}
 (x:K () (Fh k e g bu (us.set i n) bq qs)):wpH P (aQ t (.pointer (some (dQ ⟨bu,0,none⟩ (i*1)))) (.int k n)) K (Fh k e g bu us bq qs):=by
 have:=Dp (P:=P) (t:=t) (k:=k) (e:=e) (g:=g) (bu:=bu) (bq:=bq) (us:=us) (qs:=qs) (i:=(i:Int)) (n:=n) (K:=K) one hne o (by assumption)
 assumption
def Pz{P:aT}{t:cP}{k:dF}{e:cP}{g:aW}{bu bq:Nat}{us qs:List Int}(one:P.cellsOf t=1/\(P.info? t).isSome=true){n:Int}{i:Nat}(hi:i<qs.length){K:Unit->aW->Prop}
 (x:K () (Fh k e g bu us bq (qs.set i n))):wpH P (aQ t (.pointer (some (dQ ⟨bq,0,none⟩ (i*1)))) (.int k n)) K (Fh k e g bu us bq qs):=by
 have:=Sq (P:=P) (t:=t) (k:=k) (e:=e) (g:=g) (bu:=bu) (bq:=bq) (us:=us) (qs:=qs) (i:=(i:Int)) (n:=n) (K:=K) one o (by assumption)
 assumption
section
variable {h g:aW} {K:VP} {bu bq:Nat} {VA:Option bW} {vs us0:List Int}
set_option maxHeartbeats 1000000 in
def Rg{s mm N nq vc xn:Nat}{a b Y:Int}(hu:g bu=none)(hq:g bq=none)(hne:bu≠bq)(sv:SlI .u64 g VA vs)(dv:Dig b64 vs)(hn:vs.length=mm+2)(hv1:b64<=2*vs.getD (mm+1) 0)(hs:s<64)(hY:val b64 vs=Y)(hYb:Y=b*2^s)(du:Dig b64 us0)(hN:us0.length=N)(hua:val b64 us0=a*2^s)(hxn:N=xn+1)(hnq:N=nq+(mm+2))(hnq1:1<=nq)(hbig:N<=20000000000001)(htop:val b64 (us0.drop nq)<Y)
 (hK:∀ A1 m1 c1 A2 m2 c2 h',g.le h'->m1<=c1->m2<=c2->Mw h' A1 m1 (a/b)->Mw h' A2 m2 (a%b)->K (.tuple #[.slice A1 m1 c1,.slice A2 m2 c2]) h'):
 Q7 prog xn (mm+2) K (s:Int) VA (mm+2) vc (some ⟨bu,0,none⟩) N N (some ⟨bq,0,none⟩) nq nq (Fh .u64 230 g bu us0 bq (aE nq 0)):=by
 have hp:0<(2:Int)^s:=bK dc
 have a3:Y<b64^(mm+2):=by rw [<- hY,<- hn];exact J4 dc dv
 have ba:0<Y:=by have:=C3 dc (du.drop nq);omega
 have e0:B7 ((xn:Int)-((mm+2:Nat):Int))=(nq:Int)-1:=by rw [B5 o o];omega
 unfold Q7
 refine ⟨fun l h'=>∃ (k:Nat) (us qs:List Int),l=[I ((k:Int)-1)]/\k<=nq/\us.length=N/\qs.length=nq/\Dig b64 us/\Dig b64 qs/\h'=Fh .u64 230 g bu us bq qs/\val b64 (us.drop k)<Y/\val b64 us0=val b64 (qs.drop k)*Y*b64^k+val b64 us,fun l _=>(iAt l 0+1).toNat,⟨nq,us0,_,by rw [e0],o,hN,by simp,du,H7 dc _,rfl,htop,by simp [val]⟩,?_⟩
 rintro j a8 ⟨k,us,qs,ax,hk,O,af,x,ai,rfl,ao,hv⟩
 obtain rfl:j=(k:Int)-1:=by simpa using ax
 have ad:g.le (Fh .u64 230 g bu us bq qs):=Zl hu hq hne
 have su:SlI .u64 (Fh .u64 230 g bu us bq qs) (some ⟨bu,0,none⟩) us:=Zk hne
 unfold Ai
 refine B4 (fun h1=>?_) (fun h1=>?_)
 ·obtain ⟨j,rfl⟩:∃ j,k=j+1:=⟨k-1,o⟩
  have ej:((j+1:Nat):Int)-1=(j:Int):=o
  rw [ej]
  have e1:B7 ((j:Int)+((mm+2:Nat):Int))=((j+(mm+2):Nat):Int):=by rw [B5 o o];omega
  have e2:B7 (((j+(mm+2):Nat):Int)+1)=((j+(mm+3):Nat):Int):=by rw [B5 o o];omega
  simp only [e1,e2,aC]
  have A:=x.drop j
  have M:(us.drop j).length=N-j:=by rw [cD,O]
  have z:val b64 ((us.drop j).drop (mm+3))=0:=by
   have:=Jr (B:=b64) dc (n:=mm+2) (x.drop (j+1)) o
   rw [cO] at this ⊢
   rw [show j+(mm+3)=j+1+(mm+2) from o];exact this
  have aj:=Wj b64 us j
  have au:val b64 (us.drop j)<Y*b64:=by
   have bd:=I5 x j
   rw [aj]
   have t1:b64*(val b64 (us.drop (j+1))+1)<=b64*Y:=aG o dc
   have t2:b64*(val b64 (us.drop (j+1))+1)=b64*val b64 (us.drop (j+1))+18446744073709551616:=by show (18446744073709551616:Int)*_=_;grind
   have t3:Y*b64=b64*Y:=bA _ _
   omega
  have L:=F7 b64 (us.drop j) (i:=mm+3) o
  rw [z,dV,dY] at L
  have aw:=G3 b64 (us.drop j) (mm+2)
  have hX:val b64 (us.drop j)=val b64 ((us.drop j).take (mm+2))+b64^(mm+2)*(us.drop j).getD (mm+2) 0:=by rw [L];exact aw
  refine ⟨⟨o,o⟩,⟨o,o⟩,?_⟩
  have sw:SlI .u64 (Fh .u64 230 g bu us bq qs) (Q3 (some ⟨bu,0,none⟩) N j 1) ((us.drop j).take (mm+3)):=by
   have:=su.cut (c:=N) (l:=j) (m:=j+(mm+3)) o o o
   rwa [show j+(mm+3)-j=mm+3 from o] at this
  generalize hXX:val b64 (us.drop j)=X at *
  refine Nf (m:=mm) (X:=X) (Y:=Y) sw (sv.mono ad) (by rw [aP,M];omega) hn.symm (A.take _) dv (by rw [aP,M];omega) hn o hv1 L.symm hY au ?_
  intro q q0 q1 q2 q3
  refine ⟨_,rfl,⟨o,o⟩,⟨o,o⟩,?_⟩
  have w0:=A1t (e:=230) (us:=us) (qs:=qs) hu hne
  have ay:SlI .u64 (blk .u64 230 g bq qs) VA vs:=sv.mono (Lc hq qs)
  have hW:(us.drop j).take (j+(mm+2)-j)=(us.drop j).take (mm+2):=by rw [show j+(mm+2)-j=mm+2 from o]
  have w1:=w0.sub (l:=j) (m:=j+(mm+2)) (c:=N) o o o
  rw [hW] at w1
  have Q:((us.drop j).take (mm+2)).length=mm+2:=by rw [aP,M];omega
  refine Co w1 (by rw [Q];omega) ay hn.symm (A.take _) dv (by rw [Q,hn]) ⟨q0,q1⟩ o ?_
  intro W c h2 r E y H w2
  rw [Q] at r H
  refine ⟨_,rfl,?_⟩
  have w3:=w0.whole (l:=j) (m:=j+(mm+2)) o o o w2
  have ab:=A06 hne w3
  have p:(us.take j).length=j:=by rw [aP,O];omega
  have ak:us.drop (j+(mm+2))=(us.drop j).drop (mm+2):=by rw [cO]
  rw [cG,ak] at ab
  subst ab
  generalize hws:us.drop j=ws at *
  have u:(W++ws.drop (mm+2)).length=ws.length:=by rw [bB,cD];omega
  have dW:Dig b64 (W++ws.drop (mm+2)):=E.append (A.drop _)
  have aa:(W++ws.drop (mm+2)).getD (mm+2) 0=ws.getD (mm+2) 0:=by
   simp only [eB]
   rw [List.getElem?_append_right o,r,Nat.sub_self,List.getElem?_drop,eS]
  have V:=I5 A (mm+2)
  have a0:(us.take j++(W++ws.drop (mm+2))).length=N:=by rw [bB,u,p];omega
  have al:SlI .u64 (Fh .u64 230 g bu (us.take j++(W++ws.drop (mm+2))) bq qs) (some ⟨bu,0,none⟩) (us.take j++(W++ws.drop (mm+2))):=Zk hne
  have a2:j+(mm+2)=(mm+2)+(us.take j).length:=o
  refine al.load a0.symm o o ?_
  rw [aC,a2,Nb,aa]
  refine ⟨_,rfl,o,o,?_⟩
  refine Py (i:=mm+2+(us.take j).length) D8 hne o ?_
  rw [Rh]
  have hP:0<b64^(mm+2):=D4 dc _
  have ap:=J4 dc E
  have a7:=C3 dc E
  rw [r] at ap
  rw [hY] at H
  have hD:X-q*Y=val b64 W+(ws.getD (mm+2) 0-c)*b64^(mm+2):=by rw [H,hX];grind
  have S:X-q*Y<Y:=by
   have:(q+1)*Y=q*Y+Y:=gz0
   omega
  have a6: -Y<=X-q*Y:=by
   have:(q-1)*Y=q*Y-Y:=gz0
   omega
  have be:0<=X:=by
   have t1:=C3 dc (A.take (mm+2))
   have t2:=aS (aO hP) V.1
   omega
  have a4:ws.getD (mm+2) 0-c=0\/ws.getD (mm+2) 0-c= -1:=by
   have t2:ws.getD (mm+2) 0-c<1:=by
    by_cases y:ws.getD (mm+2) 0-c<1
    ·exact y
    ·have:=aD (show 1<=ws.getD (mm+2) 0-c from o) (aO hP);omega
   have t3: -2<ws.getD (mm+2) 0-c:=by
    by_cases y: -2<ws.getD (mm+2) 0-c
    ·exact y
    ·have:=aD (show ws.getD (mm+2) 0-c <= -2 from o) (aO hP);omega
   omega
  have C:∀ v,((W++ws.drop (mm+2)).set (mm+2) v).take (mm+2)=W:=by
   intro v
   rw [List.take_set_of_le o,cV r]
  have ac:∀ v,((W++ws.drop (mm+2)).set (mm+2) v).getD (mm+2) 0=v:=by
   intro v
   rw [eB,List.getElem?_set_self o];rfl
  have ah:∀ v,((W++ws.drop (mm+2)).set (mm+2) v).drop (mm+3)=ws.drop (mm+3):=by
   intro v
   rw [E2 o,show mm+3=(mm+2)+1 from o,<- cO,eE r,cO]
  refine ⟨fun l h'=>∃ d w,l=[U w]/\h'=Fh .u64 230 g bu (us.take j++d) bq qs/\d.length=ws.length/\Dig b64 d/\d.drop (mm+3)=ws.drop (mm+3)/\d.getD (mm+2) 0=0/\val b64 (d.take (mm+2))=X-w*Y/\0<=X-w*Y/\X-w*Y<Y/\0<=w/\w<18446744073709551616,B4 (fun h3=>?_) (fun h3=>?_),?_⟩
  ·have G:ws.getD (mm+2) 0-c= -1:=o
   rw [G] at hD ⊢
   have ag:C4 (-1)=18446744073709551615:=by rw [F0];omega
   rw [ag]
   have az:1<=q:=by
    by_cases y:1<=q
    ·exact y
    ·have:q=0:=o
     subst this;omega
   have e5:(q-1)*Y=q*Y-Y:=gz0
   have bk:=A7h (g:=g) (bu:=bu) (bq:=bq) (pre:=us.take j) (qs:=qs) (VA:=VA) (vs:=vs) (n:=mm+2) (N:=N) (ws:=(W++ws.drop (mm+2)).set (mm+2) 18446744073709551615) (q:=q)
    (J:=fun l h'=>∃ d w,l=[U w]/\h'=Fh .u64 230 g bu (us.take j++d) bq qs/\d.length=ws.length/\Dig b64 d/\d.drop (mm+3)=ws.drop (mm+3)/\d.getD (mm+2) 0=0/\val b64 (d.take (mm+2))=X-w*Y/\0<=X-w*Y/\X-w*Y<Y/\0<=w/\w<18446744073709551616)
    hu hq hne sv dv hn.symm (dW.set dc) (by rw [bB,dL,u,p];omega) (by rw [dL,u];omega) o (by rw [C,hY];omega) (by rw [C,hY];omega) (ac _) ?_
   ·rw [p] at bk;exact bk
   ·intro d g1 g2 g3 g4 g5
    rw [C,hY] at g5
    rw [C0 (n:=q-1) o o]
    refine ⟨d,q-1,rfl,rfl,by rw [g1,dL,u],g2,by rw [g3,ah],g4,o,o,o,o,o⟩
  ·have F:ws.getD (mm+2) 0-c=0:=o
   rw [F] at hD ⊢
   have ar:C4 0=0:=by rw [F0];omega
   rw [ar]
   exact ⟨(W++ws.drop (mm+2)).set (mm+2) 0,q,rfl,rfl,by rw [dL,u],dW.set dc,ah _,ac _,by rw [C];omega,o,S,q0,q1⟩
  ·rintro q4 a5 ⟨d,w,an,rfl,g1,g2,g3,g4,g5,g6,g7,g8,g9⟩
   obtain rfl:q4=w:=by simpa using an
   refine ⟨_,rfl,o,o,?_⟩
   refine Pz (i:=j) D8 o ?_
   rw [B5 o o]
   have T:val b64 d=X-q4*Y:=by
    have z1:=F7 b64 d (i:=mm+3) o
    rw [g3,z,G3,g4,g5] at z1
    simp at z1
    omega
   refine ⟨⟨j,us.take j++d,qs.set j q4,rfl,o,by rw [bB,g1,p];omega,by simpa using af,(x.take j).append g2,ai.set ⟨g8,g9⟩,rfl,?_,?_⟩,by simp only [iAt,aI];omega⟩
   ·rw [eE p,T];exact g7
   ·have R:=F7 b64 us (i:=j) o
    rw [hws,hXX] at R
    rw [hv,Z7 o,E5,p,T,R,bH]
    simp only [val]
    grind
 ·have aq:k=0:=o
  subst aq
  simp at ao hv
  have bc:0<b:=by
   by_cases y:0<b
   ·exact y
   ·have:=aD (show b<=0 from o) (aO hp);omega
  have a9:=C3 dc x
  have hR:val b64 us=(a-val b64 qs*b)*2^s:=by
   rw [hua,hYb] at hv
   grind
  have av:0<=a-val b64 qs*b:=by
   by_cases y:0<=a-val b64 qs*b
   ·exact y
   ·have:=aD (show a-val b64 qs*b <= -1 from o) (aO hp);omega
  have am:a-val b64 qs*b<b:=by
   by_cases y:a-val b64 qs*b<b
   ·exact y
   ·have:=aD (show b<=a-val b64 qs*b from o) (aO hp);omega
  have D:a/b=val b64 qs:=by
   have:a=(a-val b64 qs*b)+val b64 qs*b:=o
   rw [this,dJ _ _ o,bI av am,cI]
  have ae:a%b=a-val b64 qs*b:=by
   have:=Int.emod_def a b
   rw [this,D,bA]
  rw [D,ae] at hK
  rw [<- af]
  refine J3 A7g ai (bG _) o ?_
  intro m1 ag M1
  refine ⟨_,_,_,rfl,?_⟩
  rw [<- O]
  refine J3 su x (bG _) o ?_
  intro m2 bb M2
  refine ⟨_,_,_,rfl,?_⟩
  rw [C0 o o]
  refine Aa M2 (by have:=M2.len_le dc (j:=mm+2) o;omega) o ?_
  intro A3 m3 c3 h3 l3 k3 M3
  have a1:val b64 us/2^s=a-val b64 qs*b:=by rw [hR,dR _ o]
  rw [a1] at M3
  exact ⟨_,_,_,rfl,hK _ _ _ _ _ _ _ (A0 ad l3) o k3 (M1.mono l3) M3⟩
end
section
variable {h g:aW} {K:VP} {A B:Option bW} {ac bc:Nat}
set_option maxHeartbeats 1000000 in
def W7{x y:Int}{an bn:Nat}(ma:Mw h A an x)(mb:Mw h B bn y)(ha:an<=ac)(hbc:bn<=bc)(hy:y≠0)(hl:an<=20000000000000)(hl2:bn<=20000000000000)
 (hK:∀ A1 m1 c1 A2 m2 c2 h',h.le h'->m1<=c1->m2<=c2->Mw h' A1 m1 (x/y)->Mw h' A2 m2 (x%y)->K (.tuple #[.slice A1 m1 c1,.slice A2 m2 c2]) h'):aH prog 260 #[.slice A an ac,.slice B bn bc] h K:=by
 have L:=ma.nonneg dc
 have ap:=mb.nonneg dc
 have a4:=mb.len_zero dc
 have z:=ma.lt dc
 have a8:=mb.lt dc
 refine Hj _ _ _ _ _ _ ?_
 unfold Fe
 refine E3 ma mb o ⟨_,rfl,B4 (fun D=>?_) (fun D=>E4 (fun h2=>?_) (fun h2=>?_))⟩
 ·have M:x<y:=by
   unfold U5 at D
   by_cases c:x<y
   ·exact c
   ·rw [iN c] at D
    by_cases O:x>y
    ·rw [iP O] at D;omega
    ·rw [iN O] at D;omega
  rw [bI L M,dX L M] at hK
  exact hK none 0 0 _ _ _ _ (B3 h) (bG _) ha Mag.zero ma
 ·obtain ⟨a,rfl,sy,dy,ny,rfl⟩:=mb
  have R:a.length=1:=o
  obtain ⟨d,rfl⟩:∃ d,a=[d]:=by
   cases a with
   | nil=>simp at R
   | cons d r=>
    cases r with
    | nil=>exact ⟨d,rfl⟩
    | cons _ _=>simp at R
  rw [Y6] at hy ap hK
  have hd:=dy d (by simp)
  obtain ⟨w,rfl⟩:∃ w:Nat,d=w:=⟨d.toNat,o⟩
  refine sy.load rfl o (by simp) ?_
  show aH _ _ #[_,U (w:Int)] _ _
  have hw:w<18446744073709551616:=by have:=hd.2;have:(w:Int)<18446744073709551616:=this;omega
  refine Jd ma ⟨o,hw⟩ hl ?_
  intro A' m c' h' aj hm a5 hM
  refine ⟨_,_,_,_,rfl,?_⟩
  refine R7 ⟨aU _ o,by have:=aM x (show (0:Int)<w from o);omega⟩ ?_
  intro A2 m2 c2 h3 G k3 M3
  exact ⟨_,_,_,rfl,hK _ _ _ _ _ _ _ (A0 aj G) hm k3 (hM.mono G) M3⟩
 ·have aq:y<=x:=by
   unfold U5 at D
   by_cases c:x<y
   ·rw [iP c] at D;omega
   ·omega
  have a7:bn<=an:=mb.len_le dc (cZ aq z)
  have ax:=mb
  have ak:=ma
  obtain ⟨a,rfl,sy,dy,ny,rfl⟩:=mb
  obtain ⟨mm,hmm⟩:∃ mm,a.length=mm+2:=⟨a.length-2,o⟩
  have gt:=I5 dy (mm+1)
  have ao:=Wo (m:=mm+1) hmm ny
  obtain ⟨H,q⟩:=Cd (B:=b64) dc dy (m:=mm+1) hmm
  have e1:B7 ((a.length:Int)-1)=((mm+1:Nat):Int):=by rw [B5 o o];omega
  rw [e1]
  refine sy.load rfl o o ?_
  rw [aC]
  obtain ⟨t,ht⟩:∃ t:Nat,a.getD (mm+1) 0=t:=⟨(a.getD (mm+1) 0).toNat,o⟩
  rw [ht] at gt ao H q ⊢
  have p:t≠0:=o
  refine K4 o ⟨_,rfl,?_⟩
  obtain ⟨ay,a0⟩:=X3 p
  have a1:L8 t<=64:=Bq (k:=64) o
  have az:1<=L8 t:=by unfold L8;rw [iN p];omega
  obtain ⟨s,hs⟩:∃ s,s=64-L8 t:=⟨_,rfl⟩
  rw [<- hs]
  have X:s<64:=o
  have b:0<(2:Int)^s:=bK dc
  have am:=Q0 (s:=s) o
  have C:L8 t=64-s:=o
  have au:(t:Int)+1<=2^(64-s):=by
   rw [<- C]
   have:((t+1:Nat):Int)<=((2^L8 t:Nat):Int):=o
   simpa using this
  have al:(2:Int)^(63-s)<=t:=by
   have:((2^(L8 t-1):Nat):Int)<=((t:Nat):Int):=o
   rw [show L8 t-1=63-s from o] at this
   simpa using this
  have F:(2:Int)^s*2^(63-s)=9223372036854775808:=by
   rw [<- aX,show s+(63-s)=63 from o];decide
  have ai:C4 (s:Int)=(s:Int):=C0 o o
  rw [ai]
  have g:=D4 (B:=b64) dc (mm+1)
  have ah:val b64 a*2^s<b64^(mm+2):=by
   have t2:val b64 a*2^s<((t:Int)+1)*b64^(mm+1)*2^s:=bF H b
   have t3:((t:Int)+1)*b64^(mm+1)*2^s=((t:Int)+1)*2^s*b64^(mm+1):=gz0
   have t4:((t:Int)+1)*2^s*b64^(mm+1)<=18446744073709551616*b64^(mm+1):=by
    apply aD _ (aO g)
    rw [<- am,bA (2^s)]
    exact aD au (aO b)
   have t5:b64^(mm+2)=18446744073709551616*b64^(mm+1):=by rw [bH b64 (mm+1),bA]
   omega
  have a6:9223372036854775808*b64^(mm+1)<=val b64 a*2^s:=by
   have t1:(t:Int)*b64^(mm+1)*2^s<=val b64 a*2^s:=aD q (aO b)
   have t2:9223372036854775808*b64^(mm+1)<=(t:Int)*2^s*b64^(mm+1):=by
    apply aD _ (aO g)
    rw [<- F,bA (t:Int)]
    exact aG al o
   have t3:(t:Int)*2^s*b64^(mm+1)=(t:Int)*b64^(mm+1)*2^s:=gz0
   omega
  refine N4 ax hbc hl2 o ?_
  intro A1 n1 c1 g1 l1 k1 M1
  refine ⟨_,_,_,rfl,?_⟩
  have ab:n1=mm+2:=by
   have q1:=M1.len_le dc ah
   have q2:=M1.lt dc
   by_cases c:n1=mm+2
   ·exact c
   ·have:=C8 (B:=b64) dc (show n1<=mm+1 from o)
    omega
  subst ab
  obtain ⟨vs,V,sv,dv,nv,aa⟩:=M1
  have af:b64<=2*vs.getD (mm+1) 0:=by
   obtain ⟨q1,q2⟩:=Cd (B:=b64) dc dv (m:=mm+1) V.symm
   rw [aa] at q1
   have:9223372036854775808<vs.getD (mm+1) 0+1:=by
    by_cases c:9223372036854775808<vs.getD (mm+1) 0+1
    ·exact c
    ·have:=aD (show vs.getD (mm+1) 0+1<=9223372036854775808 from o) (aO g);omega
   show (18446744073709551616:Int)<=_
   omega
  have eN:B7 ((an:Int)+1)=((an+1:Nat):Int):=by rw [B5 o o];omega
  rw [eN]
  refine K6 I6 o o o ?_
  intro bu ar
  rw [aC]
  refine ⟨_,_,_,rfl,?_⟩
  have w0:=Win.blk .u64 230 ar (aE (an+1) 0)
  refine w0.call ?_
  refine N4 (ak.mono l1) ha hl o ?_
  intro A3 n3 c3 g3 G k3 M3 h4 w4
  refine ⟨_,_,_,rfl,?_⟩
  have av:x*2^s<b64^(an+1):=by
   have t1:x*2^s<b64^an*2^s:=bF z b
   have t2:b64^an*2^s<=b64^an*18446744073709551616:=by
    apply aG _ (aO (D4 dc an))
    have:=C8 (B:=2) dc (show s<=64 from o)
    have e:(2:Int)^64=18446744073709551616:=dc
    omega
   rw [bH];show _<b64^an*(18446744073709551616:Int);omega
  have a3:=M3.len_le dc av
  obtain ⟨us,aw,ag,ad,a2,S⟩:=M3
  refine S6 I6 w4 (by simp) (ag.mono w4.le) aw (by simp;omega) ?_
  intro h5 w5
  refine ⟨_,rfl,?_⟩
  rw [bJ] at w5
  generalize hu0:us++aE (an+1-us.length) (0:Int)=us0 at w5
  have W:us0.length=an+1:=by rw [<- hu0];simp;omega
  have u:Dig b64 us0:=by rw [<- hu0];exact ad.append (H7 dc _)
  have l:val b64 us0=x*2^s:=by rw [<- hu0,T1];exact S
  obtain ⟨nq,hnq⟩:∃ nq,an+1=nq+(mm+2):=⟨an+1-(mm+2),o⟩
  have eq:B7 (B7 ((an:Int)-(a.length:Int))+1)=(nq:Int):=by
   rw [B5 (n:=(an:Int)-(a.length:Int)) o o,B5 o o];omega
  rw [eq]
  refine K6 I6 o o o ?_
  intro bq j
  rw [aC]
  refine ⟨_,_,_,rfl,?_⟩
  have ae:h5=blk .u64 230 g3 bu us0:=by rw [w5.eq];simp [blk]
  subst ae
  have T:g3 bu=none:=w5.free
  have E:bu≠bq:=by
   rintro rfl
   unfold blk at j
   rw [B8] at j;cases j
  have Q:g3 bq=none:=by
   have:=j
   unfold blk at this
   rwa [B6 _ _ E.symm] at this
  rw [hmm]
  refine Rg (us0:=us0) (N:=an+1) (xn:=an) T Q E (sv.mono G) dv V.symm af X aa rfl u W l rfl hnq o o ?_ ?_
  ·have s1:=F7 b64 us0 (i:=nq) o
   have s2:=C3 dc (u.take nq)
   have s3:val b64 us0<b64^an*2^s:=by
    rw [l];exact bF z b
   have s4:b64^(mm+1)<=val b64 a:=by
    have:=aD (show 1<=(t:Int) from o) (aO g);omega
   have s5:b64^nq*(b64^(mm+1)*2^s)<=b64^nq*(val b64 a*2^s):=aG (aD s4 (aO b)) (aO (D4 dc nq))
   have s6:b64^nq*(b64^(mm+1)*2^s)=b64^an*2^s:=by
    rw [<- cR,<- aX,show nq+(mm+1)=an from o]
   by_cases c:val b64 (us0.drop nq)<val b64 a*2^s
   ·exact c
   ·have:=aG (show val b64 a*2^s<=val b64 (us0.drop nq) from o) (aO (D4 (B:=b64) dc nq));omega
  ·intro A5 m5 c5 A6 m6 c6 h6 l6 k5 k6 M5 M6
   exact hK _ _ _ _ _ _ _ (A0 l1 (A0 G l6)) k5 k6 M5 M6
end
def Nh{x a b p:Int}(h:a+p*b=x)(h0:0<=a)(h1:a<p):x/p=b/\x%p=a:=(Int.ediv_emod_unique o).2 ⟨h,h0,h1⟩
def Jv{P:aT}{h:aW}{A:Option bW}{n m c s:Nat}{cs:List dT}(hl:cs.length=n*s)(hc:cs=[]\/∃ a,A=some a/\∀ j v,cs[j]? = some v->h.cell? (a.add j)=some v){K:Array dT->aW->Prop}(x:K cs.toArray h):
 wpH P (Builtin.firstCells s n (.slice A m c)) K h:=by
 cases A with
 | none=>
  rcases hc with rfl|⟨a,e,_⟩
  ·exact x
  ·cases e
 | some a=>
  show wpH P (loadCells a (n*s)) K h
  rcases hc with rfl|⟨b,e,hc⟩
  ·exact N5 (cs:=[]) hl.symm (fun j v e=>by simp at e) x
  ·cases e
   exact N5 hl.symm hc x
def A1p{P:aT}{t e ty:cP}{k:dF}{bytes:Nat}(s:SliceT P t e (.int k 0) 1 bytes){h g:aW}{b:Nat}{A:Option bW}{pre post:List dT}{xs:List Int}{n c m d:Nat}(w:Win k h g b e A pre xs post)(hn:n=xs.length){B:Option bW}{ys:List Int}(sy:SlI k h B ys)(hm:min m xs.length=ys.length){K:VP}
 (x:∀ h',Win k h' g b e A pre (ys++xs.drop ys.length) post->K (I ys.length) h'):wpH P (cA #[t,t] ty #[.slice A n c,.slice B m d]) K h:=by
 subst hn
 obtain ⟨i,y,z,p,q⟩:=s.parts
 unfold cA
 simp only [List.getElem?_toArray,aI,aR,B9,D3 s.und,H5 y,F4,Builtin.lenOf,p]
 have j:Nat.min m xs.length=ys.length:=hm
 rw [j]
 refine Jv (s:=1) (cs:=ys.map (bX k)) (by simp) sy ?_
 cases A with
 | none=>
  rcases w.at_ with l|l
  ·have:ys=[]:=cF gz0
   subst this
   exact x h (by assumption)
  ·cases l
 | some a=>
  simp only [B9]
  rcases w.at_ with l|l
  ·have:ys=[]:=cF gz0
   subst this
   exact x h (by assumption)
  ·cases l
   rw [w.eq]
   refine G2 (ys.map (bX k)) pre.length 0 (pre++xs.map (bX k)++post) gz0 (fun v r=>?_) ?_
   ·obtain ⟨u,_,rfl⟩:=List.mem_map.1 r;rfl
   ·refine x _ ⟨w.free,?_,?_⟩
    ·congr 3
     unfold G9
     rw [eS,cG pre,cV rfl,eD]
     rw [eC,aZ (show pre.length<=pre.length+ys.length from o),eM,cL]
     rw [cT gz0,<- List.map_drop,List.map_append]
     grind
    grind
section
variable {h g:aW} {K:VP} {A B:Option bW} {ac bc:Nat}
def A2n(a n:Nat):(if (a:Int)<(n:Int) then (a:Int) else (n:Int))=((min n a:Nat):Int):=o
def Dy{xs:List Int}(d:Dig b64 xs)(n:Nat):val b64 xs/b64^n=val b64 (xs.drop (min n xs.length))/\val b64 xs%b64^n=val b64 (xs.take (min n xs.length)):=by
 by_cases c:n<=xs.length
 ·rw [aK c]
  have e:=F7 b64 xs c
  have a:=C3 dc (d.take n)
  have b:=J4 dc (d.take n)
  rw [aP,aK c] at b
  exact Nh e.symm a b
 ·rw [eA o,List.drop_length,cC]
  have a:=C3 dc d
  have b:=J4 dc d
  have g:=C8 (B:=b64) dc (show xs.length<=n from o)
  exact Nh (by simp [val]) a o
def P6{x:Int}{an n:Nat}(ma:Mw h A an x)(ha:an<=ac)(hK:∀ A' m c',m<=c'->m<=an->Mw h A' m (x/b64^n)->K (.slice A' m c') h):aH prog 278 #[.slice A an ac,I n] h K:=by
 obtain ⟨xs,rfl,d,a,c,rfl⟩:=ma
 refine (fnk func278) ?_
 rw [A2n,aC]
 refine ⟨⟨o,o⟩,hK _ _ _ o o ?_⟩
 rw [(Dy a n).1,<- cD]
 refine Mw.of (Ni d o ha) (a.drop _) ?_
 by_cases b:min n xs.length<xs.length
 ·exact Eo c b
 ·rw [aZ o];exact Norm.nil
def Z6{x:Int}{an n:Nat}(ma:Mw h A an x)(ha:an<=ac)(hl:an<=100000000000000)(hK:∀ A' m c',m<=c'->m<=n->m<=an->Mw h A' m (x%b64^n)->K (.slice A' m c') h):aH prog 277 #[.slice A an ac,I n] h K:=by
 obtain ⟨xs,rfl,b,a,c,rfl⟩:=ma
 refine (fnk func277) ?_
 rw [A2n,aC,I7,bU,bU]
 refine ⟨⟨o,o⟩,Q9 (Cl b (m:=min n xs.length) o ha) (a.take _) gz0 (Dy a n).2.symm o o ?_⟩
 grind
def Bl{x y:Int}{an bn n:Nat}(ma:Mw h A an x)(mb:Mw h B bn y)(hbn:bn<=n)(hl:n+an<=34000000000000)(hK:∀ A' m c' h',h.le h'->m<=c'->Mw h' A' m (x*b64^n+y)->K (.slice A' m c') h'):aH prog 280 #[.slice A an ac,.slice B bn bc,I n] h K:=by
 obtain ⟨xs,rfl,r,C,G,rfl⟩:=ma
 obtain ⟨e,rfl,p,u,E,rfl⟩:=mb
 refine (fnk func280) ?_
 have w:B7 ((n:Int)+xs.length)=((n+xs.length:Nat):Int):=by rw [B5 o o];omega
 rw [w]
 refine K6 I6 o o o ?_
 intro b k
 rw [aC]
 refine ⟨_,_,_,rfl,?_⟩
 have j:=Win.blk .u64 230 k (aE (n+xs.length) 0)
 refine S6 I6 j gz0 (p.mono j.le) rfl gz0 ?_
 intro F a
 refine ⟨_,rfl,⟨o,o⟩,?_⟩
 rw [bJ] at a
 generalize hz:e++aE (n+xs.length-e.length) (0:Int)=zs at a
 have q:zs.length=n+xs.length:=gz0
 have z:=a.sub (l:=n) (m:=n+xs.length) (c:=n+xs.length) o o o
 refine S6 I6 z gz0 (r.mono a.le) rfl gz0 ?_
 intro D i
 rw [aZ gz0,bY] at i
 have d:=a.whole (l:=n) (m:=n+xs.length) o o o i
 rw [aZ (show zs.length<=n+xs.length from o),bY] at d
 have g:zs.take n=e++aE (n-e.length) 0:=by
  rw [<- hz,List.take_append,aY o,cK]
  grind
 rw [g] at d
 refine ⟨_,rfl,Q9 d.sl ((u.append (H7 dc _)).append C) gz0 rfl o o ?_⟩
 intro m s M
 refine ⟨_,_,_,rfl,hK _ _ _ _ d.le s ?_⟩
 rw [E5,T1] at M
 grind
def A4o{x y:Int}(hx:0<=x/\x<18446744073709551616)(hy:0<=y/\y<18446744073709551616)(hK:K (.tuple #[U (x*y/18446744073709551616),U (x*y%18446744073709551616)]) h):aH prog 155 #[U x,U y] h K:=by
 refine (fnk func155) ?_
 exact Ep hx hy ⟨_,_,rfl,hK⟩
def Rl{v:Int}{n:Nat}(s:SlI .u64 h A [v])(hn:0<n)(hl:n<=10000000000000)(hK:∀ A' h',h.le h'->SlI .u64 h' A' (aE n v)->K (.slice A' n n) h'):aH prog 287 #[.slice A 1 ac,I n] h K:=by
 refine (fnk func287 [(8,[8],[],[I 0])]) ?_
 refine B4 (fun d=>o) (fun _=>?_)
 rw [C0 (n:=((1:Nat):Int)) o o,C0 (n:=(n:Int)) o o]
 refine A4o o o ⟨_,_,rfl,?_⟩
 have B:((1:Nat):Int)*(n:Int)/18446744073709551616=0:=o
 have z:((1:Nat):Int)*(n:Int)%18446744073709551616=n:=o
 rw [B,z]
 refine B4 (fun d=>o) (fun _=>?_)
 refine B4 (fun d=>o) (fun _=>?_)
 rw [B5 (n:=(n:Int)) o o]
 refine K6 I6 o o o ?_
 intro b r
 refine ⟨_,_,_,rfl,?_⟩
 have p:=Win.blk .u64 230 r (aE n 0)
 refine S6 I6 p (by simp) (s.mono p.le) rfl gz0 ?_
 intro d g
 refine ⟨_,rfl,?_⟩
 rw [bJ] at g
 refine ⟨fun l e=>∃ k:Nat,l=[I k]/\0<k/\k<=n/\Win .u64 e h b 230 (some ⟨b,0,none⟩) [] (aE k v++aE (n-k) 0) [],fun l _=>n-(iAt l 0).toNat,⟨1,rfl,o,hn,g⟩,?_⟩
 rintro i e ⟨k,D,x,a,w⟩
 obtain rfl:i=(k:Int):=gz0
 refine B4 (fun q=>?_) (fun q=>?_)
 ·have y:(aE k v++aE (n-k) (0:Int)).length=n:=gz0
  refine ⟨⟨o,o⟩,⟨o,o⟩,?_⟩
  simp only [aC,I7,bU]
  have E:=w.sub (l:=k) (m:=n) (c:=n) o o o
  have u:SlI .u64 e (some ⟨b,0,none⟩) (aE (min k (n-k)) v):=by
   have:=Cl w.sl (c:=n) (m:=min k (n-k)) o o
   grind
  refine A1p I6 E (by simp) u (by simp) ?_
  intro H j
  rw [bV] at j ⊢
  have F:=w.whole (l:=k) (m:=n) o o (by simp;omega) j
  have C:B7 ((k:Int)+(min k (n-k):Nat))=((k+min k (n-k):Nat):Int):=by rw [B5 o o];omega
  refine ⟨_,rfl,?_⟩
  rw [C]
  refine ⟨⟨_,rfl,o,o,?_⟩,?_⟩
  ·have G:(aE k v++aE (n-k) (0:Int)).take k++(aE (min k (n-k)) v++(aE (n-k) (0:Int)).drop (min k (n-k)))++(aE k v++aE (n-k) (0:Int)).drop n=aE (k+min k (n-k)) v++aE (n-(k+min k (n-k))) 0:=by
    rw [cV (by simp),aZ (show (aE k v++aE (n-k) (0:Int)).length<=n from o),bY,bJ,<- cG,cQ]
    grind
   grind
  ·simp only [iAt,aI];omega
 ·have a:k=n:=o
  subst a
  have:=w.sl
  rw [Nat.sub_self,List.replicate_zero,bY] at this
  exact hK _ _ w.le this
end
def Mw.high{h:aW}{A:Option bW}{an ac k:Nat}{x:Int}(ma:Mw h A an x)(ha:an<=ac)(hk:k<=an):Mw h (Q3 A ac k 1) (an-k) (x/b64^k):=by
 obtain ⟨xs,rfl,d,b,c,rfl⟩:=ma
 have e:=(Dy b k).1
 rw [aK hk] at e
 rw [e,<- cD]
 refine Mw.of (Ni d hk ha) (b.drop _) ?_
 by_cases a:k<xs.length
 ·exact Eo c a
 ·rw [aZ o];exact Norm.nil
def A0d{x P X2 yh top:Int}(hP:0<P)(h1:x<P*P*(X2+1))(h2:P*top<=x)(hlt:X2<yh):top<P*yh:=by
 by_cases a:top<P*yh
 ·exact a
 ·have c:P*(P*yh)<=P*top:=aG o o
  have b:P*P*(X2+1)<=P*P*yh:=aG o (aS o o)
  grind
def A0e{x P X2 yh top:Int}(hP:0<P)(h1:P*P*X2<=x)(h2:x<P*(top+1))(hge:yh<=X2):P*yh<=top:=by
 by_cases a:P*yh<=top
 ·exact a
 ·have c:P*(top+1)<=P*(P*yh):=aG o o
  have b:P*P*yh<=P*P*X2:=aG o (aS o o)
  grind
def A2y(N:Nat):Prop:=∀ {h:aW} {K:VP} {A B:Option bW} {ac bc an bn:Nat} {x y:Int},bn<=N->Mw h A an x->Mw h B bn y->an<=ac->bn<=bc->an<=19000000000000->bn<=9300000000000->0<bn->9223372036854775808*b64^(bn-1)<=y->x<b64^bn*y->
 (∀ A1 m1 c1 A2 m2 c2 h',h.le h'->m1<=c1->m2<=c2->Mw h' A1 m1 (x/y)->Mw h' A2 m2 (x%y)->K (.tuple #[.slice A1 m1 c1,.slice A2 m2 c2]) h')->aH prog 279 #[.slice A an ac,.slice B bn bc] h K
section
variable {h g:aW} {K:VP} {A B:Option bW} {ac bc:Nat}
def T8{x y:Int}:U5 x y<0↔x<y:=by
 unfold U5
 omega
set_option maxHeartbeats 1000000 in
def Rb{x y q0 R0 pr:Int}{m bn nq cq np cp nr cr:Nat}{Aq Ap Ar:Option bW}(hx0:0<=x)(mb:Mw h B bn y)(hb:bn<=bc)(hl2:bn<=9300000000000)(hbm:bn=2*m)(mq:Mw h Aq nq q0)(hq:nq<=cq)(mp:Mw h Ap np pr)(hp2:pr<b64^bn)
 (mr:Mw h Ar nr R0) (hr:nr<=cr) (hq0:q0<b64^m) (hR:R0-pr=x-q0*y) (hy:x-q0*y<y)
 (hK:∀ A1 m1 c1 A2 m2 c2 h',h.le h'->m1<=c1->m2<=c2->Mw h' A1 m1 (x/y)->Mw h' A2 m2 (x%y)->K (.tuple #[.slice A1 m1 c1,.slice A2 m2 c2]) h'):
 Q6 prog B bn bc K Aq nq cq Ap np cp Ar nr cr h:=by
 have N:=mb.lt dc
 have Q:=mb.nonneg dc
 have L:=mp.nonneg dc
 unfold Q6
 refine ⟨fun l c=>∃ (Aq Ar:Option bW) (nq cq nr cr:Nat) (q R:Int),l=[.slice Aq nq cq,.slice Ar nr cr]/\h.le c/\Mw c Aq nq q/\nq<=cq/\Mw c Ar nr R/\nr<=cr/\q<b64^m/\R-pr=x-q*y/\x-q*y<y,fun l c=>match l with|[.slice A n _,_]=>A4a b64 c A n|_=>0,⟨_,_,_,_,_,_,_,_,rfl,B3 h,mq,hq,mr,hr,hq0,hR,hy⟩,?_⟩
 rintro A1 O c1 A2 S c2 c ⟨Aq,Ar,nq,cq,nr,cr,q,R,w,e,mq,hq,mr,hr,hq0,hR,hy⟩
 simp only [dM,dU,and_true] at w
 obtain ⟨⟨rfl,rfl,rfl⟩,rfl,rfl,rfl⟩:=w
 have E:S<=bn+1:=mr.len_le dc (by
  rw [bH]
  show R<b64^bn*18446744073709551616
  omega)
 have M:O<=m:=mq.len_le dc hq0
 refine E3 mr (mp.mono e) o ⟨_,rfl,?_⟩
 refine B4 (fun i=>?_) (fun i=>?_)
 ·rw [T8] at i
  have C:=mq.nonneg dc
  have s:1<=q:=by
   by_cases T:1<=q
   ·exact T
   ·obtain rfl:q=0:=o
    omega
  refine K7 mr (mb.mono e) hr hb o o ?_
  intro A3 D H k d g M3
  refine ⟨_,_,_,rfl,S5 I6 rfl ?_⟩
  intro b r
  refine ⟨_,_,_,rfl,?_⟩
  have j:=Heap.le_put (.cells #[U 1] 230) r
  have M1:Mw (k.put b (.cells #[U 1] 230)) (some ⟨b,0,none⟩) 1 1:=⟨[1],rfl,SlI.new k b [1] 230 _,Dig.one dc,by simp [Norm],Y6 _ _⟩
  refine E7 ((mq.mono d).mono j) M1 hq o s ?_
  intro A5 V X W u G M5
  refine ⟨_,_,_,rfl,⟨_,_,_,_,_,_,_,_,rfl,A0 e (A0 d (A0 j u)),M5,G,(M3.mono j).mono u,g,o,?_,?_⟩,?_⟩
  ·rw [Int.sub_mul];omega
  ·rw [Int.sub_mul];omega
  ·simp only [Bj M5,Bj mq];omega
 ·rw [T8] at i
  refine E7 mr (mp.mono e) hr o o ?_
  intro A3 D H k d g M3
  obtain ⟨F,z⟩:=Nh (x:=x) (a:=R-pr) (b:=q) (p:=y) (by rw [hR,bA y];omega) o o
  refine ⟨_,_,_,rfl,hK _ _ _ _ _ _ _ (A0 e d) hq g ?_ ?_⟩
  ·rw [F];exact mq.mono d
  ·rw [z];exact M3
set_option maxHeartbeats 1000000 in
def Hz{N:Nat}(ih:A2y N){x y:Int}{an bn m:Nat}(hm:0<m)(hN:m<=N)(hbm:bn=2*m)(ma:Mw h A an x)(mb:Mw h B bn y)(ha:an<=ac)(hb:bn<=bc)(hl:an<=19000000000000)(hl2:bn<=9300000000000)(htop:9223372036854775808*b64^(bn-1)<=y)(hxy:x<b64^m*y)
 (hK:∀ A1 m1 c1 A2 m2 c2 h',h.le h'->m1<=c1->m2<=c2->Mw h' A1 m1 (x/y)->Mw h' A2 m2 (x%y)->K (.tuple #[.slice A1 m1 c1,.slice A2 m2 c2]) h'):aH prog 286 #[.slice A an ac,.slice B bn bc] h K:=by
 have ag:=ma.nonneg dc
 have a5:=mb.nonneg dc
 have ap:=mb.lt dc
 have p:=D4 (B:=b64) dc m
 have al:b64^bn=b64^m*b64^m:=by rw [<- aX];congr 1;omega
 have u:b64^(2*m)=b64^m*b64^m:=by rw [<- aX];congr 1;omega
 have aq:b64^(bn-1)=b64^m*b64^(m-1):=by rw [<- aX];congr 1;omega
 have ay:an<=m+bn:=ma.len_le dc (by
  have i:b64^m*y<b64^m*b64^bn:=bN ap p
  rw [aX];omega)
 have a:=mb.high (k:=m) hb o
 rw [show bn-m=m from o] at a
 have d:=a.nonneg dc
 have aw:=a.lt dc
 have dy:b64^m*(y/b64^m)+y%b64^m=y:=aJ _ _
 have X:=aU y (b:=b64^m) o
 have a2:=aM y p
 have dx:b64^m*(x/b64^m)+x%b64^m=x:=aJ _ _
 have a4:=aU x (b:=b64^m) o
 have bb:=aM x p
 have a0:=D4 (B:=b64) dc (m-1)
 have af:9223372036854775808*b64^(m-1)<=y/b64^m:=by
  by_cases hc:9223372036854775808*b64^(m-1)<=y/b64^m
  ·exact hc
  ·have i:b64^m*(y/b64^m+1)<=b64^m*(9223372036854775808*b64^(m-1)):=aG o o
   have R:b64^m*(9223372036854775808*b64^(m-1))=9223372036854775808*(b64^m*b64^(m-1)):=gz0
   rw [aq] at htop
   rw [cU] at i
   omega
 obtain ⟨ys,am,sy,e,aa,rfl⟩:=mb
 have mb:Mw h B bn (val b64 ys):=⟨ys,am,sy,e,aa,rfl⟩
 generalize hyv:val b64 ys=y at *
 refine Hi _ _ _ _ _ _ ?_
 unfold Fd
 have eh:B7 (aF ((bn:Nat):Int) 2)=(m:Int):=by rw [bC o,B5 o o];omega
 have ab:B7 (2*(m:Int))=((2*m:Nat):Int):=by rw [B5 o o];omega
 simp only [eh,ab,aC,bU,I7]
 rw [show bn-m=m from o]
 refine ⟨⟨o,o⟩,⟨o,o⟩,Q9 (Cl sy (m:=m) (c:=bc) o o) (e.take m) (by rw [aP];omega) rfl o o ?_⟩
 intro yn a8 Myl
 have w:=(Dy e m).2
 rw [aK o,hyv] at w
 rw [<- w] at Myl
 refine ⟨_,_,_,rfl,B3 h,P6 ma ha ?_⟩
 intro A1 n1 c1 k1 a7 M1
 refine ⟨_,_,_,rfl,?_⟩
 have G:=M1.nonneg dc
 refine ⟨fun l V=>∃ (Aq Ar:Option bW) (T cq W cr:Nat) (q r:Int),l=[.slice Aq T cq,.slice Ar W cr]/\h.le V/\Mw V Aq T q/\T<=cq/\Mw V Ar W r/\W<=cr/\q<b64^m/\x/b64^m=q*(y/b64^m)+r/\x-q*y<y,?_,?_⟩
 ·refine P6 ma ha ?_
  intro A2 n2 c2 k2 a6 M2
  refine ⟨_,_,_,rfl,E3 M2 a o ⟨_,rfl,?_⟩⟩
  have au:b64^(2*m)*(x/b64^(2*m))+x%b64^(2*m)=x:=aJ _ _
  have ae:=aU x (b:=b64^(2*m)) (by have:=D4 (B:=b64) dc (2*m);omega)
  have ad:=aM x (D4 (B:=b64) dc (2*m))
  generalize x/b64^(2*m)=X2 at *
  rw [u] at au ae ad
  refine B4 (fun S=>?_) (fun S=>?_)
  ·rw [T8] at S
   have ht:=A0d (x:=x) (top:=x/b64^m) p (by rw [cU];omega) o S
   refine ih hN M1 a k1 o o o hm af ht ?_
   intro A3 n3 c3 A4 n4 c4 h3 s k3 k4 M3 M4
   have M:0<y/b64^m:=o
   have d1:=aJ (x/b64^m) (y/b64^m)
   have d2:=aM (x/b64^m) M
   have d0:=M3.nonneg dc
   refine ⟨_,_,_,_,_,_,rfl,_,_,_,_,_,_,_,_,rfl,s,M3,k3,M4,k4,bD M ht,by rw [bA];omega,?_⟩
   generalize (x/b64^m)/(y/b64^m)=q at *
   generalize (x/b64^m)%(y/b64^m)=r at *
   generalize x/b64^m=top at *
   generalize y/b64^m=yh at *
   generalize y%b64^m=yl at *
   generalize x%b64^m=xl at *
   generalize b64^m=P at *
   have i:P*(r+1)<=P*yh:=aG o o
   have R:x-q*y=P*r+xl-q*yl:=by rw [<- dx,<- dy,<- d1];grind
   have t3:=aS d0 X
   rw [cU] at i
   omega
  ·rw [T8] at S
   have ht:=A0e (x:=x) (top:=x/b64^m) (yh:=y/b64^m) (X2:=X2) p o (by rw [cU];omega) o
   refine S5 I6 rfl ?_
   intro b aj
   refine ⟨_,_,_,rfl,?_⟩
   have l4:=Heap.le_put (.cells #[U 18446744073709551615] 230) aj
   refine Rl (v:=18446744073709551615) (SlI.new h b [18446744073709551615] 230 _) hm o ?_
   intro A5 h5 D s5
   refine ⟨_,_,_,rfl,?_⟩
   have O:=A0 l4 D
   refine Bl (a.mono O) (Mag.zero (k:=.u64) (B:=b64)) o o ?_
   intro A6 n6 c6 h6 l6 k6 M6
   refine ⟨_,_,_,rfl,?_⟩
   have n:=A0 O l6
   refine E7 (M1.mono n) M6 k1 o (by rw [bA];omega) ?_
   intro A7 n7 c7 h7 C k7 M7
   have a9:n7<=an:=M7.len_le dc (by
    have:=ma.lt dc
    have i:=aS d (aO p)
    have R:1*(x/b64^m)<=b64^m*(x/b64^m):=aD o G
    omega)
   refine ⟨_,_,_,rfl,?_⟩
   refine K7 M7 ((a.mono n).mono C) k7 o o o ?_
   intro A8 n8 c8 h8 l8 k8 M8
   have F:∀ j:Nat,val b64 (aE j 18446744073709551615)=b64^j-1:=by
    intro j
    induction j with
    | zero=>rfl
    | succ j ihj=>
     rw [List.replicate_succ,val,ihj,bH]
     show (18446744073709551615:Int)+18446744073709551616*(b64^j-1)=b64^j*18446744073709551616-1
     omega
   have M5:Mw h5 A5 m (b64^m-1):=by
    refine ⟨aE m 18446744073709551615,by simp,s5,?_,?_,F m⟩
    ·intro z hz
     have:=List.eq_of_mem_replicate hz
     subst this;decide
    ·obtain ⟨j,rfl⟩:∃ j,m=j+1:=⟨m-1,o⟩
     unfold Norm
     rw [List.replicate_succ']
     simp
   refine ⟨_,_,_,rfl,_,_,_,_,_,_,_,_,rfl,A0 n (A0 C l8),((M5.mono l6).mono C).mono l8,bG _,M8,k8,o,?_,?_⟩
   ·grind
   ·have:(b64^m-1)*y=b64^m*y-y:=gz0
    omega
 ·rintro Aq' ai a1 Ar' ak ax V ⟨Aq,Ar,T,cq,W,cr,q,r,H,lh,Q,hq,mr,hr,g,ah,ao⟩
  simp only [dM,dU,and_true] at H
  obtain ⟨⟨rfl,rfl,rfl⟩,rfl,rfl,rfl⟩:=H
  have E:=Q.nonneg dc
  have a3:=mr.nonneg dc
  have ba:ai<=m:=Q.len_le dc g
  have az:ak<=an:=mr.len_le dc (by
   have:=ma.lt dc
   have i:=aS E d
   have R:1*(x/b64^m)<=b64^m*(x/b64^m):=aD o G
   omega)
  refine D6 Q (Myl.mono lh) hq o o o ?_
  intro A3 n3 c3 h3 s k3 M3
  refine ⟨_,_,_,rfl,Z6 (ma.mono (A0 lh s)) ha o ?_⟩
  intro A4 n4 c4 k4 ar av M4
  refine ⟨_,_,_,rfl,Bl (mr.mono s) M4 ar o ?_⟩
  intro A5 n5 c5 h5 D k5 M5
  have L:=A0 lh (A0 s D)
  refine ⟨_,_,_,rfl,Rb (q0:=q) (m:=m) ag (mb.mono L) hb hl2 hbm ((Q.mono s).mono D) hq (M3.mono D) ?_ M5 k5 g ?_ ao ?_⟩
  ·rw [al]
   have i:q*(y%b64^m)<=q*b64^m:=aG o E
   have R:q*b64^m<b64^m*b64^m:=bF g p
   omega
  ·generalize x/b64^m=top at *
   generalize y/b64^m=yh at *
   generalize y%b64^m=yl at *
   generalize x%b64^m=xl at *
   generalize b64^m=P at *
   rw [<- dx,<- dy,ah];grind
  ·intro A6 n6 c6 A7 n7 c7 h7 C k6 k7 M6 M7
   exact hK _ _ _ _ _ _ _ (A0 L C) k6 k7 M6 M7
end
set_option maxHeartbeats 1000000 in
def A77:∀ N,A2y N:=by
 intro N
 induction N with
 | zero=>intro h K A B X O an d x y h1 _ _ _ _ _ _ z;omega
 | succ N ih=>
  intro h K A B X O an d x y hN n i F q hl k ad g j hK
  have aa:=n.nonneg dc
  have ag:=i.nonneg dc
  have e:0<y:=by
   have:=D4 (B:=b64) dc (d-1);omega
  refine (fnk func279) ?_
  have c:aH prog 260 #[.slice A an X,.slice B d O] h (fun r hp=>∃ (t22aA:Option bW) (t22an:Nat) (t22ac:Nat) (t22bA:Option bW) (t22bn:Nat) (t22bc:Nat),r= .tuple #[.slice t22aA t22an t22ac,.slice t22bA t22bn t22bc]/\K (.tuple #[.slice t22aA t22an t22ac,.slice t22bA t22bn t22bc]) hp):=by
   refine W7 n i F q o o o ?_
   intro A1 m1 c1 A2 m2 c2 h' l G R M1 M2
   exact ⟨_,_,_,_,_,_,rfl,hK _ _ _ _ _ _ _ l G R M1 M2⟩
  refine B4 (fun h1=>c) (fun h1=>?_)
  refine H9 (fun z=>c) (fun z=>?_)
  rw [cX o] at z
  obtain ⟨m,hbm⟩:∃ m,d=2*m:=⟨d/2,o⟩
  have eh:B7 (aF ((d:Nat):Int) 2)=(m:Int):=by rw [bC o,B5 o o];omega
  simp only [eh]
  have W:=D4 (B:=b64) dc m
  have C:b64^d=b64^m*b64^m:=by rw [<- aX];congr 1;omega
  have dx:b64^m*(x/b64^m)+x%b64^m=x:=aJ _ _
  have af:=aU x (b:=b64^m) o
  have aj:=aM x W
  rw [C] at j
  refine P6 n F ?_
  intro A1 n1 c1 G ah M1
  refine ⟨_,_,_,rfl,?_⟩
  have M:x/b64^m<b64^m*y:=by
   by_cases hc:x/b64^m<b64^m*y
   ·exact hc
   ·have E:b64^m*(b64^m*y)<=b64^m*(x/b64^m):=aG o o
    rw [cR] at j
    omega
  refine Hz ih o o hbm M1 i G q o k g M ?_
  intro A2 n2 c2 A3 n3 c3 h3 s R k3 M2 M3
  refine ⟨_,_,_,_,_,_,rfl,Z6 (n.mono s) F o ?_⟩
  intro A4 n4 c4 k4 L T M4
  have d1:=aJ (x/b64^m) y
  have d2:=aM (x/b64^m) e
  have d3:=aU (x/b64^m) (b:=y) o
  have H:x/b64^m/y<b64^m:=bD e M
  have ab:n3<=d:=M3.len_le dc (by have:=i.lt dc;omega)
  have ai:n2<=m:=M2.len_le dc H
  refine ⟨_,_,_,rfl,Bl M3 M4 L o ?_⟩
  intro A5 n5 c5 h5 u k5 M5
  refine ⟨_,_,_,rfl,?_⟩
  have S:(x/b64^m)%y*b64^m+x%b64^m<b64^m*y:=by
   have E:b64^m*((x/b64^m)%y+1)<=b64^m*y:=aG o o
   rw [cU,bA] at E
   omega
  have ae:n5<=d+m:=M5.len_le dc (by
   have E:b64^m*y<b64^m*b64^d:=bN (i.lt dc) W
   rw [Nat.add_comm,aX];omega)
  refine Hz ih o o hbm M5 (i.mono (A0 s u)) k5 q o k g S ?_
  intro A6 n6 c6 A7 n7 c7 h7 Q k6 k7 M6 M7
  have D:n6<=m:=M6.len_le dc (bD e S)
  refine ⟨_,_,_,_,_,_,rfl,Bl ((M2.mono u).mono Q) M6 D o ?_⟩
  intro A8 n8 c8 h8 V k8 M8
  refine ⟨_,_,_,rfl,?_⟩
  have e1:=aJ ((x/b64^m)%y*b64^m+x%b64^m) y
  have e2:=aM ((x/b64^m)%y*b64^m+x%b64^m) e
  have e3:=aU ((x/b64^m)%y*b64^m+x%b64^m) (b:=y) o
  have M7':=M7.mono V
  have w:=A0 s (A0 u (A0 Q V))
  generalize ((x/b64^m)%y*b64^m+x%b64^m)/y=q2 at *
  obtain ⟨f1,f2⟩:=Nh (x:=x) (a:=((x/b64^m)%y*b64^m+x%b64^m)%y) (b:=x/b64^m/y*b64^m+q2) (p:=y) (by
   generalize ((x/b64^m)%y*b64^m+x%b64^m)%y=r2 at *
   generalize x/b64^m/y=q1 at *
   generalize x/b64^m%y=r1 at *
   generalize x/b64^m=top at *
   generalize x%b64^m=xl at *
   generalize b64^m=P at *
   grind) e3 e2
  refine hK _ _ _ _ _ _ _ w k8 k7 ?_ ?_
  ·rw [f1];exact M8
  ·rw [f2];exact M7'
def Ko{ys:List Int}{k t s:Nat}(dy:Dig b64 ys)(hk:ys.length=k+1)(ht:ys.getD k 0=(t:Int))(ht0:t≠0)(hs:s=64-L8 t):s<64/\val b64 ys*2^s<b64^(k+1)/\9223372036854775808*b64^k<=val b64 ys*2^s:=by
 have w:=I5 dy k
 obtain ⟨d,a⟩:=Cd (B:=b64) dc dy (m:=k) hk
 rw [ht] at w d a
 obtain ⟨q,p⟩:=X3 ht0
 have n:L8 t<=64:=Bq (k:=64) o
 have r:1<=L8 t:=gz0
 have g:s<64:=o
 have b:0<(2:Int)^s:=bK dc
 have i:=Q0 (s:=s) o
 have l:(t:Int)+1<=2^(64-s):=by
  grind
 have j:(2:Int)^(63-s)<=t:=by
  grind
 have e:(2:Int)^s*2^(63-s)=9223372036854775808:=by
  rw [<- aX,show s+(63-s)=63 from o];decide
 have c:=D4 (B:=b64) dc k
 refine ⟨g,?_,?_⟩
 ·have u:val b64 ys*2^s<((t:Int)+1)*b64^k*2^s:=bF d b
  have y:((t:Int)+1)*2^s*b64^k<=18446744073709551616*b64^k:=by
   apply aD _ (aO c)
   rw [<- i,bA (2^s)]
   exact aD l (aO b)
  grind
 ·have x:(t:Int)*b64^k*2^s<=val b64 ys*2^s:=aD a (aO b)
  have u:9223372036854775808*b64^k<=(t:Int)*2^s*b64^k:=by
   apply aD _ (aO c)
   rw [<- e,bA (t:Int)]
   exact aG j o
  grind
section
variable {h g:aW} {K:VP} {A B:Option bW} {ac bc:Nat}
set_option maxHeartbeats 1000000 in
def Sp{D V a b:Int}{S sh dn dc vc bn bq:Nat}{pieces t46:Int}{DA VA:Option bW}(hS:B7 ((B7 (aF (B7 ((B7 (((bn:Nat):Int)+pieces))-(1:Int))) pieces))*pieces)=(S:Int))
 (hsh:C4 (B7 ((B7 ((64:Int)*(B7 ((S:Int)-((bn:Nat):Int)))))+t46))=(sh:Int)) (hS0:0<S) (hS2:S<=9300000000000) (hsh2:sh<=100000000000000) (hb:h bq=none) (hD:Mw h DA dn D) (hdc:dn<=dc) (hdn:0<dn) (hdl:dn<=9400000000000) (hV:Mw h VA S V) (hvc:S<=vc) (hVt:9223372036854775808*b64^(S-1)<=V)
 (hDa:D=a*2^sh) (hVb:V=b*2^sh)
 (hK:∀ A1 m1 c1 A2 m2 c2 h',h.le h'->m1<=c1->m2<=c2->Mw h' A1 m1 (a/b)->Mw h' A2 m2 (a%b)->K (.tuple #[.slice A1 m1 c1,.slice A2 m2 c2]) h'):
 Q8 prog bn K pieces t46 VA S vc DA dn dc (some ⟨bq,0,none⟩) (dn+S) (dn+S) (blk .u64 230 h bq (aE (dn+S) 0)):=by
 have O:=hD.nonneg (by decide)
 have aj:=hD.lt (by decide)
 have N:=hV.lt (by decide)
 have s:0<V:=by have:=D4 (B:=b64) (by decide) (S-1);omega
 have hp:0<(2:Int)^sh:=bK (by decide)
 have hQ:=D4 (B:=b64) (by decide) S
 unfold Q8
 simp only [hS,hsh]
 obtain ⟨nb,hnb⟩:∃ nb,nb=(dn-1)/S:=⟨_,rfl⟩
 have al:nb*S<=dn-1:=by rw [hnb];exact Nat.div_mul_le_self _ _
 have ak:dn-1<nb*S+S:=by
  have X:=dK (dn-1) S
  have h2:=Nat.mod_lt (dn-1) hS0
  rw [<- hnb,eP] at X
  omega
 have e1:B7 (B7 (aF (B7 ((dn:Int)-1)) (S:Int))*(S:Int))=((nb+1:Nat):Int)*S-S:=by
  rw [B5 (n:=(dn:Int)-1) o o,show (dn:Int)-1=((dn-1:Nat):Int) from o,<- Int.ofNat_tdiv,<- hnb]
  have:nb<=dn-1:=by rw [hnb];exact Nat.div_le_self _ _
  have h3:(nb:Int)*(S:Int)=((nb*S:Nat):Int):=by simp
  rw [B5 (n:=(nb:Int)) o o,h3,B5 o o,Int.natCast_add,Int.add_mul,h3]
  omega
 refine ⟨fun l hp=>∃ (j n c:Nat) (A:Option bW) (d:List Int) (r:Int) (g:aW),l=[.slice A n c,I ((j:Int)*S-S)]/\h.le g/\j*S+d.length=dn+S/\Dig b64 d/\Win .u64 hp g bq 230 (some ⟨bq,0,none⟩) [] (aE (j*S) 0++d) []/\Mw g A n r/\n<=c/\r=(D/b64^(j*S))%V/\val b64 d=(D/b64^(j*S))/V,fun l _=>(iAt l 1+S).toNat,⟨nb+1,0,0,none,aE (dn-1+1-nb*S) 0,0,h,by rw [e1],B3 h,?_,H7 (by decide) _,?_,Mag.zero,bG _,?_,?_⟩,?_⟩
 ·rw [bV,dE,dD];omega
 ·rw [cQ,show (nb+1)*S+(dn-1+1-nb*S)=dn+S by rw [dE,dD];omega]
  exact Win.blk .u64 230 hb _
 ·have:=C8 (B:=b64) (by decide) (show dn<=(nb+1)*S by rw [dE,dD];omega)
  rw [bI O o,eJ]
 ·have:=C8 (B:=b64) (by decide) (show dn<=(nb+1)*S by rw [dE,dD];omega)
  rw [bI O o,Int.zero_ediv,V6]
 rintro A1 n1 c1 st a0 ⟨j,n,c,A',d,r,g,R,lg,y,M,w,Mr,av,C,k⟩
 simp only [dM,dU,Value.int.injEq,and_true,true_and] at R
 obtain ⟨⟨rfl,rfl,rfl⟩,rfl⟩:=R
 refine B4 (fun X=>?_) (fun X=>?_)
 ·obtain ⟨i,rfl⟩:∃ i,j=i+1:=⟨j-1,by
   rcases j with _|j
   ·simp at X;omega
   ·rfl⟩
  obtain ⟨e,he⟩:∃ e,e=i*S:=⟨_,rfl⟩
  have F:(i+1)*S=e+S:=by rw [he,dE,dD]
  have ae:((i+1:Nat):Int)*(S:Int)-(S:Int)=(e:Int):=by rw [<- cM,F];omega
  rw [F] at y w C k
  rw [ae]
  have a1:=D4 (B:=b64) (by decide) e
  refine w.call (P6 (hD.mono lg) hdc ?_)
  intro A2 n2 c2 k2 az M2 h2 w2
  refine ⟨_,_,_,rfl,w2.call (Z6 M2 k2 o ?_)⟩
  intro A3 n3 c3 k3 ag ai M3 h3 w3
  have au:=Mr.nonneg (by decide)
  have am:r<V:=by rw [C];exact aM _ s
  have an:n1<=S:=Mr.len_le (by decide) o
  refine ⟨_,_,_,rfl,w3.call (Bl Mr M3 ag o ?_)⟩
  intro A4 n4 c4 g4 l4 k4 M4 h4 w4
  have ab:D/b64^(e+S)=D/b64^e/b64^S:=by rw [aX,dH o]
  rw [ab] at C k
  have dm:=aJ (D/b64^e) (b64^S)
  have ar:=aU (D/b64^e) (b:=b64^S) o
  have ax:=aM (D/b64^e) hQ
  generalize hD1:D/b64^e=D1 at *
  have u:r*b64^S+D1%b64^S<b64^S*V:=by
   have t1:b64^S*(r+1)<=b64^S*V:=aG o o
   rw [cU,bA] at t1
   omega
  have ay:n4<=S+S:=M4.len_le (by decide) (by
   have t1:b64^S*V<b64^S*b64^S:=bN N hQ
   rw [aX];omega)
  have E:=A0 lg l4
  refine ⟨_,_,_,rfl,w4.call (A77 S (bG _) M4 (hV.mono E) k4 hvc o hS2 hS0 hVt u ?_)⟩
  intro A5 n5 c5 A6 n6 c6 g6 l6 k5 k6 M5 M6 h6 w6
  have aq:n5<=S:=M5.len_le (by decide) (bD s u)
  refine ⟨_,_,_,_,_,_,rfl,⟨o,o⟩,?_⟩
  rw [aC]
  have ac:aE (e+S) (0:Int)++d=aE e 0++(aE S 0++d):=by rw [<- cG,cQ]
  rw [ac] at w6
  have ao:(aE e (0:Int)++(aE S 0++d)).length=dn+S:=by simp only [bB,bV];omega
  have w7:=w6.sub (l:=e) (m:=dn+S) (c:=dn+S) o o o
  have e7:((aE e (0:Int)++(aE S 0++d)).drop e).take (dn+S-e)=aE S 0++d:=by
   rw [eE (by simp),aY (by simp only [bB,bV];omega)]
  rw [e7] at w7
  obtain ⟨z,G,ad,ah,aw,L⟩:=M5
  refine S6 I6 w7 (by simp only [bB,bV];omega) (ad.mono w6.le) G (by simp only [bB,bV];omega) ?_
  intro h8 w8
  rw [cT (by simp;omega),bJ,<- cG z] at w8
  have q:(z++aE (S-z.length) (0:Int)).length=S:=by simp;omega
  have w9:=w6.whole (l:=e) (m:=dn+S) o o (by rw [bB,q];omega) w8
  rw [cV (by simp),aZ (show (aE e (0:Int)++(aE S 0++d)).length<=dn+S from o),bY] at w9
  have e8:B7 ((e:Int)-(S:Int))=((i:Nat):Int)*S-S:=by
   rw [B5 o o,he,cM]
  have ap:=aJ (r*b64^S+D1%b64^S) V
  have H:=aU (r*b64^S+D1%b64^S) (b:=V) o
  have T:=aM (r*b64^S+D1%b64^S) s
  have aa:=aJ (D1/b64^S) V
  rw [<- C,<- k] at aa
  obtain ⟨f1,f2⟩:=Nh (x:=D1) (a:=(r*b64^S+D1%b64^S)%V) (b:=val b64 z+b64^S*val b64 d) (p:=V) (by
   rw [L]
   generalize (r*b64^S+D1%b64^S)%V=r2 at *
   generalize hq2:(r*b64^S+D1%b64^S)/V=q2 at *
   generalize D1%b64^S=bl at *
   generalize D1/b64^S=D2 at *
   generalize b64^S=Q at *
   generalize val b64 d=W at *
   grind) H T
  refine ⟨_,rfl,?_⟩
  rw [e8]
  refine ⟨⟨i,_,_,_,(z++aE (S-z.length) 0)++d,_,g6,rfl,A0 E l6,?_,?_,?_,M6,k6,?_,?_⟩,?_⟩
  ·rw [bB,q];omega
  ·exact (ah.append (H7 (by decide) _)).append M
  ·rw [<- he];exact w9
  ·rw [<- he,hD1,f2]
  ·rw [<- he,hD1,f1,E5,q,T1]
  ·simp only [iAt,aR,aI]
   rw [<- cM,<- he]
   omega
 ·obtain rfl:j=0:=by
   rcases j with _|j
   ·rfl
   ·rw [<- cM,dE,dD] at X
    omega
  rw [eO,List.replicate_zero,cL] at w
  rw [eO,eU,Int.ediv_one] at C k
  rw [eO,Nat.zero_add] at y
  have af:0<b:=by
   by_cases hc:0<b
   ·exact hc
   ·have:=aD (show b<=0 from o) (aO hp);omega
  obtain ⟨f1,f2⟩:=Nh (x:=D) (a:=(a%b)*2^sh) (b:=a/b) (p:=V) (by
   have:=aJ a b
   rw [hDa,hVb]
   conv=>rhs;rw [<- this]
   grind) (aS (aU _ o) o) (by rw [hVb];exact bF (aM _ af) hp)
  refine Q9 w.sl M y.symm k o o ?_
  intro m2 k2 M2
  refine ⟨_,_,_,rfl,?_⟩
  refine Aa (Mr.mono w.le) (by have:=Mr.len_le (j:=S) (by decide) (by have:=aM D s;omega);omega) o ?_
  intro A3 n3 c3 h3 l3 k3 M3
  rw [C,f2,dR _ o] at M3
  rw [f1] at M2
  exact ⟨_,_,_,rfl,hK _ _ _ _ _ _ _ (A0 lg (A0 w.le l3)) k2 k3 (M2.mono l3) M3⟩
set_option maxHeartbeats 1000000 in
def Gc{x y:Int}{an bn:Nat}(ma:Mw h A an x)(mb:Mw h B bn y)(ha:an<=ac)(hbc:bn<=bc)(hl:an<=9000000000000)(hl2:bn<=9000000000000)(ha0:0<an)(hb0:0<bn)
 (hK:∀ A1 m1 c1 A2 m2 c2 h',h.le h'->m1<=c1->m2<=c2->Mw h' A1 m1 (x/y)->Mw h' A2 m2 (x%y)->K (.tuple #[.slice A1 m1 c1,.slice A2 m2 c2]) h'):aH prog 259 #[.slice A an ac,.slice B bn bc] h K:=by
 have aj:=ma.nonneg dc
 have af:=ma.len_zero dc
 have m:=ma.lt dc
 refine Hk _ _ _ _ _ _ ?_
 unfold Ff Bw
 refine ⟨fun l hp=>hp=h/\∃ p:Nat,l=[I p]/\0<p/\p<=bn/\(p=1\/39*p<=bn),fun l _=>bn-(iAt l 0).toNat,⟨rfl,1,rfl,o,o,.inl rfl⟩,?_⟩
 rintro C hp ⟨rfl,p,X,r,ad,aa⟩
 obtain rfl:=sI1 X
 have e1:B7 (aF (B7 (B7 ((bn:Int)+(p:Int))-1)) (p:Int))=(((bn+p-1)/p:Nat):Int):=by
  rw [B5 (n:=(bn:Int)+p) o o,B5 (n:=(bn:Int)+p-1) o o,show (bn:Int)+p-1=((bn+p-1:Nat):Int) from o,<- Int.ofNat_tdiv]
  have:(bn+p-1)/p<=bn+p-1:=Nat.div_le_self _ _
  generalize (bn+p-1)/p=q at *
  rw [B5 o o]
 refine B4 (fun d=>o) (fun _=>?_)
 obtain ⟨S,hS⟩:∃ S,S=(bn+p-1)/p*p:=⟨_,rfl⟩
 have ag:bn<=S/\S<=bn+p-1:=by
  have d:=dK (bn+p-1) p
  have E:=Nat.mod_lt (bn+p-1) r
  rw [eP,<- hS] at d
  omega
 have e2:B7 ((B7 (aF (B7 (B7 ((bn:Int)+(p:Int))-1)) (p:Int)))*(p:Int))=(S:Int):=by
  rw [e1,<- cM,<- hS,B5 o o]
 refine B4 (fun d=>?_) (fun d=>?_)
 ·rw [e1] at d
  have E:80<=(bn+p-1)/p:=o
  rw [Nat.le_div_iff_mul_le r] at E
  have Q:B7 ((p:Int)*2)=((p*2:Nat):Int):=by rw [B5 o o];omega
  rw [Q]
  exact ⟨⟨rfl,_,rfl,o,o,.inr o⟩,by simp only [iAt,aI];omega⟩
 ·refine B4 (fun d=>o) (fun _=>?_)
  obtain ⟨k,hk⟩:∃ k,bn=k+1:=⟨bn-1,o⟩
  have T:=mb
  obtain ⟨a,N,sy,dy,ny,rfl⟩:=mb
  have c:a.length=k+1:=o
  have gt:=I5 dy k
  have R:=Wo c ny
  have Q:B7 ((bn:Int)-1)=(k:Int):=by rw [B5 o o];omega
  rw [Q]
  subst N
  refine sy.load rfl o o ?_
  rw [aC]
  obtain ⟨t,ht⟩:∃ t:Nat,a.getD k 0=t:=⟨(a.getD k 0).toNat,o⟩
  rw [ht] at gt R ⊢
  refine K4 o ⟨_,rfl,?_⟩
  obtain ⟨s,hs⟩:∃ s,s=64-L8 t:=⟨_,rfl⟩
  rw [<- hs]
  obtain ⟨ab,O,M⟩:=Ko dy c ht o hs
  simp only [e2]
  obtain ⟨sh,hsh⟩:∃ sh,sh=64*(S-a.length)+s:=⟨_,rfl⟩
  have e4:C4 (B7 (B7 (64*B7 ((S:Int)-(a.length:Int)))+(s:Int)))=(sh:Int):=by
   rw [B5 (n:=(S:Int)-(a.length:Int)) o o,B5 (n:=64*((S:Int)-(a.length:Int))) o o,B5 o o,C0 o o]
   omega
  simp only [e4]
  have g:(2:Int)^sh=2^s*b64^(S-a.length):=by rw [hsh,aX,Bh,bA]
  have i:=D4 (B:=b64) dc (S-a.length)
  have ai:0<(2:Int)^s:=bK dc
  have j:0<(2:Int)^sh:=bK dc
  have ae:val b64 a*2^sh=val b64 a*2^s*b64^(S-a.length):=by rw [g,cR]
  have F:val b64 a*2^sh<b64^S:=by
   have z:val b64 a*2^s*b64^(S-a.length)<b64^(k+1)*b64^(S-a.length):=bF O i
   rw [<- aX,show k+1+(S-a.length)=S from o] at z
   omega
  have W:9223372036854775808*b64^(S-1)<=val b64 a*2^sh:=by
   have z:9223372036854775808*b64^k*b64^(S-a.length)<=val b64 a*2^s*b64^(S-a.length):=aD M (aO i)
   rw [cR,<- aX,show k+(S-a.length)=S-1 from o] at z
   omega
  refine N4 T hbc o o ?_
  intro A1 b c1 d l1 k1 M1
  refine ⟨_,_,_,rfl,?_⟩
  have H:b=S:=by
   have q1:=M1.len_le dc F
   have q2:=M1.lt dc
   by_cases hc:b=S
   ·exact hc
   ·have:=C8 (B:=b64) dc (show b<=S-1 from o)
    have:=D4 (B:=b64) dc (S-1)
    omega
  subst H
  refine N4 (ma.mono l1) ha o o ?_
  intro A2 w c2 E l2 k2 M2
  refine ⟨_,_,_,rfl,?_⟩
  have ah:w<=an+(1+(b-a.length)):=M2.len_le dc (by
   have z:x*2^sh<b64^an*2^sh:=bF m j
   have t2:(2:Int)^sh<=b64^(1+(b-a.length)):=by
    rw [g,aX]
    apply aD _ (aO i)
    have:=C8 (B:=2) dc (show s<=64 from o)
    have e:(2:Int)^64=18446744073709551616:=dc
    show (2:Int)^s<=b64^1
    rw [bH,eU]
    show (2:Int)^s<=1*18446744073709551616
    omega
   have t3:b64^an*2^sh<=b64^an*b64^(1+(b-a.length)):=aG t2 (aO (D4 dc an))
   rw [aX b64 an]
   omega)
  have u:0<w:=by
   rcases Nat.eq_zero_or_pos w with G|G
   ·have:=(M2.len_zero dc).2 G
    rcases Int.mul_eq_zero.1 this with h3|h3<;>omega
   ·exact G
  have e5:B7 ((w:Int)+(b:Int))=((w+b:Nat):Int):=by rw [B5 o o];omega
  rw [e5]
  refine K6 I6 o o o ?_
  intro bq L
  rw [aC]
  refine ⟨_,_,_,rfl,?_⟩
  refine B4 (fun d=>o) (fun _=>?_)
  refine Sp (D:=x*2^sh) (V:=val b64 a*2^sh) (sh:=sh) (S:=b) e2 e4 o o o L M2 k2 u o (M1.mono l2) k1 W rfl rfl ?_
  intro A3 n3 c3 A4 n4 c4 h4 l4 k3 k4 M3 M4
  exact hK _ _ _ _ _ _ _ (A0 l1 (A0 l2 l4)) k3 k4 M3 M4
def L6{x y:Int}{an bn:Nat}(ma:Mw h A an x)(mb:Mw h B bn y)(ha:an<=ac)(hbc:bn<=bc)(hy:y≠0)(hl:an<=9000000000000)(hl2:bn<=9000000000000)
 (hK:∀ A1 m1 c1 A2 m2 c2 h',h.le h'->m1<=c1->m2<=c2->Mw h' A1 m1 (x/y)->Mw h' A2 m2 (x%y)->K (.tuple #[.slice A1 m1 c1,.slice A2 m2 c2]) h'):aH prog 231 #[.slice A an ac,.slice B bn bc] h K:=by
 refine (fnk func231) ?_
 have a:aH prog 260 #[.slice A an ac,.slice B bn bc] h (fun r c=>∃ (t22aA:Option bW) (t22an:Nat) (t22ac:Nat) (t22bA:Option bW) (t22bn:Nat) (t22bc:Nat),r= .tuple #[.slice t22aA t22an t22ac,.slice t22bA t22bn t22bc]/\K (.tuple #[.slice t22aA t22an t22ac,.slice t22bA t22bn t22bc]) c):=by
  refine W7 ma mb ha hbc hy o o ?_
  grind
 refine B4 (fun d=>B4 (fun b=>?_) (fun _=>a)) (fun _=>a)
 rw [B5 o o] at b
 refine Gc ma mb ha hbc hl hl2 o o ?_
 grind
end
def TZ(x k:Nat):Prop:=∃ m,x=2^k*(2*m+1)
def TZ.ex:∀ {x:Nat},x≠0->∃ k,TZ x k:=by
 intro x
 induction x using Nat.strongRecOn with
 | _ x ih=>
  intro h
  rcases Nat.mod_two_eq_zero_or_one x with b|b
  ·obtain ⟨k,m,a⟩:=ih (x/2) o o
   refine ⟨k+1,m,?_⟩
   rw [Nat.pow_succ,eP (2^k),dS,<- a];omega
  ·exact ⟨0,x/2,o⟩
def TZ.lt{x k n:Nat}(h:TZ x k)(hx:x<2^n):k<n:=by
 obtain ⟨m,rfl⟩:=h
 have b:2^k*1<=2^k*(2*m+1):=Nat.mul_le_mul_left _ o
 exact (Nat.pow_lt_pow_iff_right (a:=2) dc).1 o
def Xq{a u v:Nat}:(2^a*u) ||| (2^a*v)=2^a*(u ||| v):=by
 apply Nat.eq_of_testBit_eq
 grind
def A2j{u v:Nat}(h:u%2=1\/v%2=1):(u ||| v)%2=1:=by simp_all
def TZ.or'{x y a b:Nat}(hx:TZ x a)(hy:TZ y b)(hab:a<=b):TZ (x ||| y) a/\TZ (y ||| x) a:=by
 obtain ⟨m,rfl⟩:=hx
 obtain ⟨n,rfl⟩:=hy
 obtain ⟨d,rfl⟩:∃ d,b=a+d:=⟨b-a,o⟩
 rw [Nat.pow_add,dS,Xq,Xq]
 have c:=A2j (u:=2*m+1) (v:=2^d*(2*n+1)) (.inl o)
 have e:=A2j (u:=2^d*(2*n+1)) (v:=2*m+1) (.inr o)
 exact ⟨⟨_/2,by rw [<- dK (_ ||| _) 2,c]⟩,⟨_/2,by rw [<- dK (_ ||| _) 2,e]⟩⟩
def TZ.or{x y a b:Nat}(hx:TZ x a)(hy:TZ y b):TZ (x ||| y) (min a b):=by
 by_cases h:a<=b
 ·rw [aK h];exact (hx.or' hy h).1
 ·rw [eA o];exact (hy.or' hx o).2
def TZ.bit{x k:Nat}(h:TZ x k)(hx:x<2^64):x &&& (2^64-x)=2^k:=by
 obtain ⟨m,rfl⟩:=h
 have g:0<2^k:=dC dc
 have a:2^k*(2*m+1)=2^k*(2*m)+(2^k-1)+1:=gz0
 apply Nat.eq_of_testBit_eq
 intro i
 rw [Nat.testBit_and]
 have e:(2^64-2^k*(2*m+1)).testBit i=(decide (i<64) && !(2^k*(2*m)+(2^k-1)).testBit i):=by
  rw [a];exact Nat.testBit_two_pow_sub_succ o i
 rw [e,Nat.testBit_two_pow_mul_add _ o,Nat.testBit_two_pow_mul,Nat.testBit_two_pow]
 by_cases j:i<k
 ·grind
 ·by_cases b:i=k
  ·subst b
   have c:i<64:=TZ.lt ⟨m,rfl⟩ hx
   grind
  ·obtain ⟨d,hd⟩:∃ d,i-k=d+1:=⟨i-k-1,o⟩
   grind
def Lo{o k:Nat}(h:o%2=1):Nat.Coprime (2^k) o:=Nat.Coprime.pow_left k (by unfold Nat.Coprime;rw [Nat.gcd_rec,h];rfl)
def A4e{x y a b m:Nat}(hx:x=2^a*(2*m+1))(hy:TZ y b):cW x y=2^(min a b)*cW (2*m+1) y:=by
 obtain ⟨n,rfl⟩:=hy
 subst hx
 have c:cW (2*m+1) (2^b*(2*n+1))=cW (2*m+1) (2*n+1):=cH (2*n+1) (Lo o)
 rw [c]
 by_cases h:a<=b
 ·obtain ⟨d,rfl⟩:∃ d,b=a+d:=⟨b-a,o⟩
  rw [aK h,Nat.pow_add,dS,Nat.gcd_mul_left,cH _ (Lo o)]
 ·obtain ⟨d,rfl⟩:∃ d,a=b+d:=⟨a-b,o⟩
  rw [eA o,Nat.pow_add,dS,Nat.gcd_mul_left,Nat.Coprime.gcd_mul_left_cancel _ (Lo o)]
def Qy(k:Nat):Nat:=(2^k*285870213051353865%18446744073709551616)/2^58
def Gtz(h:aW):Prop:=∀ k,k<64->h.cell? (dQ ⟨1,0,none⟩ (Qy k*1))=some (Y k)
def Gtz.mono{h h':aW}(g:Gtz h)(l:h.le h'):Gtz h':=fun k a=>C2 l (g k a)
section
variable {h g:aW} {K:VP} {A B:Option bW} {ac bc:Nat}
def Dd{x k:Nat}(gl:Gtz h)(tz:TZ x k)(hx:x<18446744073709551616)(hK:K (I k) h):aH prog 263 #[U x] h K:=by
 have a:=tz.lt (n:=64) hx
 have d:x≠0:=by
  obtain ⟨m,rfl⟩:=tz
  grind
 refine Dr _ ?_
 refine E4 (fun e=>o) (fun _=>?_)
 have b:C4 (0-(x:Int))=((2^64-x:Nat):Int):=by
  rw [F0];omega
 have g:Vo .u64 (x:Int) ((2^64-x:Nat):Int)=((2^k:Nat):Int):=by
  rw [Zo o o,aC,aC,tz.bit hx]
 have c:aV (C4 (((2^k:Nat):Int)*285870213051353865)) (2^(min ((58:Int)).toNat 64))=((Qy k:Nat):Int):=by
  show aV _ (2^(min 58 64))=_
  rw [A02 dc,F0]
  rfl
 rw [b,g,c,aC]
 have i:Qy k<64:=by
  unfold Qy
  omega
 refine ⟨⟨o,o⟩,_,gl k a,?_⟩
 rw [B5 o o]
 exact hK
def Po{x y:Nat}(gl:Gtz h)(hx:x<18446744073709551616)(hy:y<18446744073709551616)(hK:K (U (cW x y:Nat)) h):aH prog 234 #[U x,U y] h K:=by
 refine (fnk func234 [(5,[0,1],[],[U 0,U 0])]) ?_
 refine E4 (fun e=>?_) (fun e=>?_)
 ·obtain rfl:x=0:=o
  rw [Vm o o]
  grind
 refine E4 (fun F=>?_) (fun F=>?_)
 ·obtain rfl:y=0:=o
  rw [Vm o o]
  grind
 obtain ⟨a,k⟩:=TZ.ex (x:=x) o
 obtain ⟨b,A⟩:=TZ.ex (x:=y) o
 have T:=k.lt (n:=64) hx
 rw [Vm o o,aC,aC]
 have q:x ||| y<18446744073709551616:=Nat.or_lt_two_pow (n:=64) hx hy
 refine Dd gl (k.or A) q ⟨_,rfl,?_⟩
 refine Dd gl k hx ⟨_,rfl,?_⟩
 refine B4 (fun j=>o) (fun _=>?_)
 obtain ⟨m,s⟩:=k
 have E:=A4e s A
 have O:aV (x:Int) (2^(min ((a:Int)).toNat 64))=((2*m+1:Nat):Int):=by
  rw [aC,A02 o,show ((2:Int)^a)=((2^a:Nat):Int) by simp,<- Int.natCast_ediv,s,eK _ (dC dc)]
 rw [O]
 have z:2*m+1<=x:=by
  rw [s];exact eQ _ (dC dc)
 refine ⟨fun l L=>L=h/\∃ u v:Nat,l=[U u,U v]/\u%2=1/\u<18446744073709551616/\v<18446744073709551616/\cW u v=cW (2*m+1) y,fun l _=>(iAt l 0+iAt l 1).toNat,⟨rfl,2*m+1,y,rfl,o,o,hy,rfl⟩,?_⟩
 rintro V S H ⟨rfl,u,v,M,N,D,g,d⟩
 obtain ⟨rfl,rfl⟩:=M
 refine H9 (fun j=>?_) (fun j=>?_)
 ·obtain ⟨c,p⟩:=TZ.ex (x:=v) o
  have W:=p.lt (n:=64) g
  refine Dd gl p g ⟨_,rfl,?_⟩
  refine B4 (fun j=>o) (fun _=>?_)
  obtain ⟨n,r⟩:=p
  have G:aV (v:Int) (2^(min ((c:Int)).toNat 64))=((2*n+1:Nat):Int):=by
   rw [aC,A02 o,show ((2:Int)^c)=((2^c:Nat):Int) by simp,<- Int.natCast_ediv,r,eK _ (dC dc)]
  have B:2*n+1<=v:=by
   rw [r];exact eQ _ (dC dc)
  have i:cW u (2*n+1)=cW u v:=by
   rw [r,cH _ (Lo N)]
  rw [G]
  refine B4 (fun C=>?_) (fun C=>?_)
  ·have w:C4 ((u:Int)-((2*n+1:Nat):Int))=((u-(2*n+1):Nat):Int):=by rw [C0 o o];omega
   rw [w]
   refine ⟨⟨rfl,_,_,rfl,o,o,o,?_⟩,?_⟩
   ·rw [eR o,Nat.gcd_comm,i,d]
   ·simp only [iAt,aI,aR];omega
  ·have w:C4 (((2*n+1:Nat):Int)-(u:Int))=((2*n+1-u:Nat):Int):=by rw [C0 o o];omega
   rw [w]
   refine ⟨⟨rfl,_,_,rfl,o,o,o,?_⟩,?_⟩
   ·rw [eR o,i,d]
   ·simp only [iAt,aI,aR];omega
 ·refine B4 (fun j=>o) (fun _=>?_)
  obtain rfl:v=0:=o
  rw [aC,aK (show min a b<=64 from o)]
  have Q:(u:Int)*2^(min a b)=((cW x y:Nat):Int):=by
   rw [E,<- d,cM,bA];simp
  have R:cW x y<=x:=Nat.le_of_dvd o (Nat.gcd_dvd_left x y)
  rw [Q,C0 o o]
  exact hK
end
def Wp{xs:List Int}(d:Dig b64 xs){k s:Nat}(hl:xs.length<=k+2)(hs:s<=64):val b64 xs/(b64^k*2^(64-s))=xs.getD (k+1) 0*2^s+xs.getD k 0/2^(64-s):=by
 have i:=C5 b64 xs (k+1)
 have l:=C5 b64 xs k
 rw [aY (show xs.length<=k+1+1 from o)] at i
 have c:=D4 (B:=b64) dc k
 have g:0<(2:Int)^(64-s):=bK dc
 have b:=Q0 (s:=s) hs
 have j:=C3 dc (d.take k)
 have m:=J4 dc (d.take k)
 have n:=C8 (B:=b64) dc (show (xs.take k).length<=k from gz0)
 rw [<- dH (aO c)]
 have e:val b64 xs/b64^k=xs.getD k 0+18446744073709551616*xs.getD (k+1) 0:=by
  refine (Nh (a:=val b64 (xs.take k)) ?_ j o).1
  grind
 rw [e,<- b,bA (2^s),cR,dP _ _ o,bA (2^s)]
 omega
section
variable {h g:aW} {K:VP} {A B:Option bW} {ac bc:Nat}
def A4t(a b u0 u1 v0 v1:Int)(odd:Bool):Prop:=(0<=u0/\u0<18446744073709551616)/\(0<=u1/\u1<18446744073709551616)/\(0<=v0/\v0<18446744073709551616)/\(0<=v1/\v1<18446744073709551616)/\(v0≠0->Leh a b u0 v0 u1 v1 (Fy a b u0 v0 odd) (Fx a b u1 v1 odd))
def A0r{a b F S W t20 t26 t33:Int}(hF:F=bor .u64 (C4 (t26*2^(min (C4 t20).toNat 64))) (aV t33 (2^(min (C4 ((64:Int)-(C4 t20))).toNat 64))))(hW:0<W)(hFa:F=a/W)(hSb:S=b/W)(hb0:0<=b)(hba:b<=a)(hF64:F<18446744073709551616)
 (hK:∀ u0 u1 v0 v1 odd,A4t a b u0 u1 v0 v1 odd->K (.agg #[U u0,U u1,U v0,U v1,.bool odd]) h):Bv prog K t20 t26 t33 S h:=by
 have da:=aJ a W
 have db:=aJ b W
 have w:=aU a (b:=W) o
 have y:=aM a hW
 have z:=aU b (b:=W) o
 have A:=aM b hW
 have x:0<=S:=by rw [hSb];exact bL hb0 o
 have u:S<=F:=by rw [hSb,hFa];exact Int.ediv_le_ediv hW hba
 unfold Bv
 rw [<- hF]
 refine ⟨fun l C=>C=h/\∃ (first c i d u0 u1 v0 v1:Int) (odd:Bool),l=[U first,U c,U i,U d,U u0,U u1,U v0,U v1,.bool odd]/\LS F S first c u0 v0 u1 v1 i d odd/\A4t a b u0 u1 v0 v1 odd/\i<=F/\d<=(if F=0 then 1 else F),fun l _=>(iAt l 1).toNat,⟨rfl,_,_,_,_,_,_,_,_,_,rfl,LS.init x u,⟨o,o,o,o,fun e=>absurd rfl e⟩,o,o⟩,?_⟩
 rintro first c i d u0 u1 v0 v1 odd C ⟨rfl,r,m,H,O,R,ac,X,ab,D,V,j,s,M,N⟩
 obtain ⟨rfl,rfl,rfl,rfl,rfl,rfl,rfl,rfl,rfl⟩:=V
 have B:=j.v2pos
 have p:=j.ord
 have T:=j.hF
 refine B4 (fun h1=>?_) (fun _=>hK _ _ _ _ _ s)
 have q:1<=c:=o
 have aa:=j.bound2 q
 have L:first<=F:=by
  have t1:1*first<=d*first:=aD o o
  have t2:=aS (show 0<=v1 from o) p.1
  omega
 rw [C0 (n:=first-c) o o,C0 (n:=v1+d) o o]
 refine B4 (fun h2=>?_) (fun _=>hK _ _ _ _ _ s)
 refine B4 (fun e=>o) (fun _=>?_)
 refine B4 (fun e=>o) (fun _=>?_)
 rw [cX o,bC o]
 have g:=j.step o o
 have ad:=g.bound q
 have k:0<=first/c:=bL o o
 have G:first/c<=first:=dG _ o
 have E:=aS k (show 0<=i from o)
 have Q:=aS k (show 0<=d from o)
 rw [C0 (n:=first/c) o o,C0 (n:=first/c*i) o o,C0 (n:=first/c*d) o o,C0 (n:=u1+first/c*i) o o,C0 (n:=v1+first/c*d) o o]
 refine ⟨⟨rfl,_,_,_,_,_,_,_,_,_,rfl,g,⟨⟨o,s.2.1.2⟩,⟨o,o⟩,⟨o,s.2.2.2.1.2⟩,⟨o,o⟩,fun e=>g.leh e hW (al:=a%W) (bl:=b%W) ?_ ?_ ⟨w,y⟩ ⟨z,A⟩⟩,o,o⟩,?_⟩
 ·grind
 ·grind
 ·have:=aM first (show 0<c from o)
  simp only [iAt,aR,aI];omega
set_option maxHeartbeats 1000000 in
def Lw{a b:Int}{an bn:Nat}(ma:Mw h A an a)(mb:Mw h B bn b)(hba:b<=a)(hb2:2<=bn)(hl:an<=100000000000000)
 (hK:∀ u0 u1 v0 v1 odd,A4t a b u0 u1 v0 v1 odd->K (.agg #[U u0,U u1,U v0,U v1,.bool odd]) h):aH prog 230 #[.slice A an ac,.slice B bn bc] h K:=by
 have S:=mb.nonneg dc
 have ag:bn<=an:=mb.len_le dc (cZ hba (ma.lt dc))
 obtain ⟨k,rfl⟩:∃ k,an=k+2:=⟨an-2,o⟩
 obtain ⟨xs,i,V,H,nx,rfl⟩:=ma
 obtain ⟨g,p,N,X,ny,rfl⟩:=mb
 refine Qc _ _ _ _ _ _ ?_
 unfold Qd
 have e1:B7 (((k+2:Nat):Int)-1)=((k+1:Nat):Int):=by rw [B5 o o];omega
 have e2:B7 (((k+2:Nat):Int)-2)=(k:Int):=by rw [B5 o o];omega
 simp only [e1,e2]
 have gt:=I5 H (k+1)
 have R:=I5 H k
 have aa:=Wo (m:=k+1) i.symm nx
 obtain ⟨t,ht⟩:∃ t:Nat,xs.getD (k+1) 0=t:=⟨(xs.getD (k+1) 0).toNat,o⟩
 rw [i]
 refine V.load rfl o o ?_
 rw [aC,ht]
 rw [ht] at gt aa
 refine K4 o ⟨_,rfl,?_⟩
 obtain ⟨s,hs⟩:∃ s,s=64-L8 t:=⟨_,rfl⟩
 rw [<- hs]
 obtain ⟨ab,w,af⟩:=Ko H i.symm ht o hs
 refine V.load rfl o o ?_
 simp only [aC,ht]
 have j:C4 (s:Int)=s:=C0 o o
 have d:C4 (64-(s:Int))=((64-s:Nat):Int):=by rw [C0 o o];omega
 refine B4 (fun e=>by rw [j] at e;omega) (fun _=>?_)
 refine V.load rfl o o ?_
 simp only [aC]
 refine B4 (fun e=>by rw [j,d] at e;omega) (fun _=>?_)
 have W:0<(2:Int)^s:=bK dc
 have r:0<(2:Int)^(64-s):=bK dc
 have y:=Q0 (s:=s) o
 have T:=D4 (B:=b64) dc k
 have Q:0<b64^k*2^(64-s):=Int.mul_pos T r
 have n:=Wp H (k:=k) (s:=s) o o
 have c:=Wp X (k:=k) (s:=s) o o
 have C:val b64 xs/(b64^k*2^(64-s))<18446744073709551616:=by
  apply bD Q
  have G:18446744073709551616*(b64^k*2^(64-s))*2^s=18446744073709551616*b64^k*(2^s*2^(64-s)):=gz0
  rw [y] at G
  have L:b64^(k+1+1)=18446744073709551616*b64^k*18446744073709551616:=by
   rw [bH,bH]
   show b64^k*18446744073709551616*18446744073709551616=_
   grind
  rw [L,<- G] at w
  exact Int.lt_of_mul_lt_mul_right w o
 have ae:val b64 g/(b64^k*2^(64-s))<=val b64 xs/(b64^k*2^(64-s)):=Int.ediv_le_ediv Q hba
 have q1:∀ z:Int,0<=z/\z<18446744073709551616->0<=z/2^(64-s)/\z/2^(64-s)<2^s:=fun z E=>
  ⟨bL E.1 o,bD r (by rw [y];exact E.2)⟩
 have x:∀ u z:Int,0<=u->0<=z/\z<18446744073709551616->u*2^s+z/2^(64-s)<18446744073709551616->bor .u64 (C4 (u*2^(min (C4 (s:Int)).toNat 64))) (aV z (2^(min (C4 (64-C4 (s:Int))).toNat 64)))=u*2^s+z/2^(64-s):=by
  intro u z hu E M
  have:=q1 z E
  have:=aS hu (aO W)
  rw [j,d,aC,aC,A02 o,aK (show s<=64 from o),C0 o o,Pv hu o M]
 have gy:=I5 X (k+1)
 have O:=I5 X k
 rw [ht] at n
 refine ⟨fun l hp=>hp=h/\l=[U (val b64 g/(b64^k*2^(64-s)))],?_,?_⟩
 ·refine E4 (fun e=>?_) (fun e=>?_)
  ·rw [p]
   refine N.load rfl o o ?_
   simp only [aC]
   refine B4 (fun e=>by rw [j] at e;omega) (fun _=>?_)
   refine N.load rfl o o ?_
   simp only [aC]
   refine B4 (fun e=>by rw [j,d] at e;omega) (fun _=>?_)
   rw [x _ _ gy.1 O o,c]
   first|exact ⟨rfl,rfl⟩|exact ⟨trivial,rfl⟩
  ·refine E4 (fun e=>?_) (fun e=>?_)
   ·rw [p]
    refine N.load rfl o o ?_
    simp only [aC]
    refine B4 (fun e=>by rw [j,d] at e;omega) (fun _=>?_)
    have:g.getD (k+1) 0=0:=by simp [eB,dO (show g.length<=k+1 from o)]
    rw [this,dI,cI] at c
    rw [j,d,aC,A02 o,c]
    first|exact ⟨rfl,rfl⟩|exact ⟨trivial,rfl⟩
   ·have G:g.getD (k+1) 0=0:=by simp [eB,dO (show g.length<=k+1 from o)]
    have L:g.getD k 0=0:=by simp [eB,dO (show g.length<=k from o)]
    rw [G,L,dI,cI,Int.zero_ediv] at c
    rw [c]
    exact ⟨rfl,rfl⟩
 ·rintro D ad ⟨rfl,q⟩
  simp only [dM,Value.int.injEq,and_true,true_and] at q
  subst q
  exact A0r (F:=val b64 xs/(b64^k*2^(64-s))) (by rw [x _ _ o R o,n]) Q rfl rfl S hba C hK
end
