/- A part. -/
import Derived.Test.YtkfhdoblhajcbaaGreatDoorG25
open Go.Proofs.Tryz
set_option linter.all false
open _root_.Go.Addr renaming add->aF
open _root_.Go.Builtin renaming append_->cJ
open Classical renaming byContradiction->aX
open _root_.Go.Instr renaming storeAt->bD,buildSlice->cF
open Int renaming toNat_natCast->aD,toNat_add->aT,tdiv_eq_ediv_of_nonneg->bO
open List renaming getElem?_cons_zero->aP,getElem?_cons_succ->aR,replicate->aS,getD->bK,range->bL,length_append->bM,all_eq_true->bW,length_replicate->bY,length_set->cI
open List.cons renaming injEq->aG
open Nat renaming le_refl->aC,mul_le_mul_right->aE,mul_le_mul->aK,mul_le_mul_left->aN,pow_le_pow_right->aY,zero_mul->bC,le_trans->bG,div_lt_of_lt_mul->bJ,one_mul->bU,add_mul->bV,mul_one->bZ,mul_comm->cC,not_lt_zero->cH,mod_lt->cL,add_zero->cR
open Rat renaming mul_zero->aQ,zero_mul->aV,mul_one->aW,one_mul->aZ,pow_zero->bX,mul_assoc->cM,zero_add->cN,pow_succ->cO,mul_comm->cP,add_zero->cQ
open _root_.Go.Value renaming cells->cG
open _root_.Go.Value.bool renaming injEq->bH
open _root_.Go.Value.int renaming injEq->aJ
open _root_.Go.Value.slice renaming injEq->aI
open _root_.Go renaming Addr->aL,Value->aU,TypeId->bI,Program->cD
open _root_.Go.Proofs.YtkfhdoblhajcbaaGreatDoor renaming Heap->aH,RowV->aM,FCall->aO,RowsV->cK
namespace Go.Proofs.YtkfhdoblhajcbaaGreatDoor
set_option maxRecDepth 20000
open Go
def Gu(P Q:Nat->Nat->Rat)(w i k j:Nat):Nat->Nat->Rat:=fun a b=>if a<i then sm w (fun t=>P a t*Q t b)else if a=i then(if b<j then sm (k+1) (fun t=>P a t*Q t b)else sm k (fun t=>P a t*Q t b))else 0
def A50(P Q:Nat->Nat->Rat)(w a b:Nat):Gu P Q w 0 0 0 a b=0:=by unfold Gu;rw[iN (cH a),iN (cH b)];split<;>rfl
def A8h(P Q:Nat->Nat->Rat)(w i k j a b:Nat):A9o (Gu P Q w i k j) i j (sm k (fun t=>P i t*Q t j)+P i k*Q k j) a b=Gu P Q w i k (j+1) a b:=by unfold A9o Gu;by_cases e:a=i/\b=j;{obtain⟨rfl,rfl⟩:=e;rw[iP ⟨rfl,rfl⟩,iN (Nat.lt_irrefl a),iP rfl,iP (Nat.lt_succ_self b)];rfl};grind
def A8i(P Q:Nat->Nat->Rat){w i k j c:Nat}(h:j=c\/P i k=0){a b:Nat}(hb:b<c):Gu P Q w i k j a b=Gu P Q w i (k+1) 0 a b:=by unfold Gu;by_cases d:a<i;{grind};·rw[iN d,iN d];by_cases e:a=i;{subst e;rw[iP rfl,iP rfl,iN (cH b)];by_cases f:b<j;{grind};·rcases h with h|h;{omega};·show _=sm k (fun t=>P a t*Q t b)+P a k*Q k b;grind};grind
def B0y(P Q:Nat->Nat->Rat)(w i a b:Nat):Gu P Q w i w 0 a b=Gu P Q w (i+1) 0 0 a b:=by unfold Gu;by_cases c:a<i;{grind};·rw[iN c];by_cases d:a=i;{grind};·rw[iN d,iN o];split;{rfl};·rfl
section
variable {h:aH} {K:VP} {A B:Option aL} {n n2 cap cap2 m w cols:Nat} {r c r2 c2:Int} {la lb:Nat->List UInt8} {P Q:Nat->Nat->Rat}
def Rk(ra:cK h A n w P)(rb:cK h B w cols Q)(hn1:1<=n)(hn:n<=10000)(hw1:1<=w)(hw:w<=10000)(hc1:1<=cols)(hc:cols<=10000)(hs:∀i j,i<n->j<w->Sz m (P i j))(hs2:∀i j,i<w->j<cols->Sz m (Q i j))(hm:1+w*(2*m+1)+2*m<=400000000) (hK:∀h' g' o' bo rb,h.le g'->Mt h' g' o' bo rb n cols (fun a b=>sm w (fun t=>P a t*Q t b))->K (.slice (some ⟨bo,0,none⟩) n n) h'):aO prog 34 #[.slice A n cap,.slice B w cap2] h K:=by refine(fnk func34 [(3,[6],[],[I 0]),(6,[7],[],[I 0]),(9,[8],[],[I 0])]) ?_;obtain⟨V,sB,X,S,aj,C,_⟩:=rb.at (i:=0) oo;refine⟨V,X,oo,oo,_,_,_,C,?_⟩;rw[S];refine T9 hn hc ?_;intro h1 g1 o1 bo p l1 t1;refine⟨_,_,_,rfl,fun L s=>∃(i:Nat) (g o:aH),i<=n/\L=[I (i:Int)]/\h.le g/\Mt s g o bo p n cols (Gu P Q w i 0 0),fun L _=>n-(iAt L 0).toNat,⟨0,g1,o1,oo,rfl,l1,t1.congr fun a b _ _=>(A50 P Q w a b).symm⟩,?_⟩;rintro z s ⟨i,g,o,hi,eL,lg,t⟩;obtain rfl:z=(i:Int):=gz0;refine C1 (fun ag=>?_) (fun al=>?_);{have d:i<n:=oo;obtain⟨a1,s1,y,f1,f2,hc1,D⟩:=ra.at d;refine⟨fun L s=>∃(k:Nat) (g o:aH),k<=w/\L=[I (k:Int)]/\h.le g/\Mt s g o bo p n cols (Gu P Q w i k 0),fun L _=>w-(iAt L 0).toNat,⟨0,g,o,oo,rfl,lg,t⟩,?_⟩;rintro z ak ⟨k,g2,o2,hk,ae,E,t2⟩;obtain rfl:z=(k:Int):=gz0;refine C1 (fun ad=>?_) (fun ac=>?_);{have l:k<w:=oo;obtain⟨a2,s2,M,f3,f4,R,row2⟩:=rb.at l;refine⟨fun L s=>∃(j:Nat) (g o:aH),j<=cols/\L=[I (j:Int)]/\h.le g/\Mt s g o bo p n cols (Gu P Q w i k j),fun L _=>cols-(iAt L 0).toNat,⟨0,g2,o2,oo,rfl,E,t2⟩,?_⟩;rintro z H ⟨j,g3,W,hj,ai,q,c⟩;obtain rfl:z=(j:Int):=gz0;have r:=B0 q c.sep.le;have next:(j=cols\/P i k=0)->((∃(k':Nat) (g o:aH),k'<=w/\[I (C4 ((k:Int)+1))]=[I (k':Int)]/\h.le g/\Mt H g o bo p n cols (Gu P Q w i k' 0))/\w-(iAt [I (C4 ((k:Int)+1))] 0).toNat<w-(iAt [I (k:Int)] 0).toNat):=by{intro hx;rw[wiS k oo];exact⟨⟨k+1,g3,W,oo,rfl,q,c.congr fun a b _ hb=>A8i P Q hx hb⟩,by simp only[O8];omega⟩};refine⟨V,X,oo,oo,_,_,_,C0 r C,?_⟩;refine C1 (fun aa=>?_) (fun T=>next (.inl oo));have e:j<cols:=oo;obtain⟨a5,w5,e5,n5,c0,c1,u,c3⟩:=(D.mono F0 q).qat l;obtain⟨a6,w6,e6,n6,d0,d1,d2,d3⟩:=(row2.mono F0 q).qat e;obtain⟨cc,am,hh⟩:=c.head d;obtain⟨x,ix,x0,x1,x2,x3⟩:=c.elem d e;refine⟨a1,y,oo,oo,_,_,_,C0 r hc1,a5,e5,oo,oo,_,_,_,_,_,_,_,_,C0 c.sep.le c0,C0 c.sep.le c1,C0 c.sep.le u,C0 c.sep.le c3,?_⟩;refine S2 (NQ.mono c.sep.le n5) ⟨_,rfl,E6 (fun af=>?_) (fun he=>next (.inr (by simp_all)))⟩;refine⟨_,rfl,oo,oo,_,_,_,c.sep.cell hh,_,rfl,oo,oo,_,_,_,c.sep.cell hh,_,rfl,oo,oo,_,_,_,_,_,_,_,_,c.sep.cell x0,c.sep.cell x1,c.sep.cell x2,c.sep.cell x3,a1,y,oo,oo,_,_,_,C0 r hc1,a5,e5,oo,oo,_,_,_,_,_,_,_,_,C0 c.sep.le c0,C0 c.sep.le c1,C0 c.sep.le u,C0 c.sep.le c3,a2,M,oo,oo,_,_,_,C0 r R,a6,e6,oo,oo,_,_,_,_,_,_,_,_,C0 c.sep.le d0,C0 c.sep.le d1,C0 c.sep.le d2,C0 c.sep.le d3,?_⟩;refine c.sep.call (K9 (a:=w5) (b:=w6) n5 n6 (hs i k d l) (hs2 k j l e) oo ?_);intro w7 g7 F i7 h7 N;refine⟨_,_,_,_,_,_,_,_,rfl,c.sep.le_le N F,?_⟩;have ev:Gu P Q w i k j i j=sm k (fun t=>P i t*Q t j):=by{unfold Gu;grind};rw[ev]at ix;have ah:k*(2*m+1)<=w*(2*m+1):=aE _ hk;refine N.call (T6 (a:=x) (b:=w7) (m:=1+k*(2*m+1)+2*m) (NQ.mono F ix) i7 ((Gk (f:=fun t=>P i t) (f2:=fun t=>Q t j) (fun t G=>hs i t d G) (fun t G=>hs2 t j G e) k hk).mono oo) (((hs i k d l).mul (hs2 k j l e)).mono oo) oo ?_);intro w8 g8 O i8 h8 s8;have t8:Mt h8 g8 W bo p n cols (Gu P Q w i k j):=c.next s8 (B0 F O);refine⟨_,_,_,_,_,_,_,_,rfl,N.le_le s8 O,_,rfl,oo,oo,?_⟩;refine t8.store d e i8 ?_;intro h9 o9 t9 _;rw[wiS j oo];exact⟨⟨j+1,g8,o9,oo,rfl,B0 q (B0 F O),t9.congr fun a b _ _=>A8h P Q w i k j a b⟩,by simp only[O8];omega⟩};·have:k=w:=oo;subst this;rw[wiS i oo];exact⟨⟨i+1,g2,o2,oo,rfl,E,t2.congr fun a b _ _=>B0y P Q k i a b⟩,by simp only[O8];omega⟩};·exact hK s g o bo p lg (t.congr fun a b ha _=>by unfold Gu;grind)
def Ur(ra:cK h A n w P)(rb:cK h B w cols Q)(hn1:1<=n)(hn:n<=10000)(hw1:1<=w)(hw:w<=10000)(hc1:1<=cols)(hc:cols<=10000)(hs:∀i j,i<n->j<w->Sz m (P i j))(hs2:∀i j,i<w->j<cols->Sz m (Q i j))(hm:1+w*(2*m+1)+2*m<=400000000) (hK:∀bo h',h.le h'->cK h' (some ⟨bo,0,none⟩) n cols (fun a b=>sm w (fun t=>P a t*Q t b))->K (.slice (some ⟨bo,0,none⟩) n n) h'):aO prog 34 #[.slice A n cap,.slice B w cap2] h K:=Rk ra rb hn1 hn hw1 hw hc1 hc hs hs2 hm fun h' c _ bo _ l t=>hK bo h' (B0 l t.sep.le) t.rowsV
end
def unP(k:Nat):Nat->Nat->Rat:=fun a b=>if a=b/\a<k then 1 else 0
def inR(bo:Nat)(rb:Nat->Nat)(n x:Nat):Prop:=x=bo\/∃i,i<n/\x=rb i
def Mt.blk{h g o:aH}{bo n w:Nat}{rb:Nat->Nat}{M:Nat->Nat->Rat}(t:Mt h g o bo rb n w M){x:Nat}(hx:inR bo rb n x):∃y,o x=some y:=by obtain⟨c,e⟩:=t.own;rcases hx with rfl|⟨i,d,rfl⟩;{exact c};·exact e i d
section
variable {h:aH} {K:VP} {n:Nat}
def A5k(hn:n<=10000) (hK:∀h' g' o' bo rb,h.le g'->Mt h' g' o' bo rb n n (fun a b=>if a=b then 1 else 0)->K (.slice (some ⟨bo,0,none⟩) n n) h'):aO prog 128 #[I (n:Int)] h K:=by refine(fnk func128 [(3,[4],[],[I 0])]) ?_;refine T9 hn hn ?_;intro M A y bo rb D t1;refine⟨_,_,_,rfl,fun L d=>∃(k:Nat) (g o:aH),k<=n/\L=[I (k:Int)]/\h.le g/\Mt d g o bo rb n n (unP k),fun L _=>n-(iAt L 0).toNat,⟨0,A,y,oo,rfl,D,t1.congr fun a b _ _=>by unfold unP;rw[iN oo]⟩,?_⟩;rintro z d ⟨k,g,o,H,w,i,t⟩;obtain rfl:=sI1 w;refine C1 (fun q=>?_) (fun p=>?_);{have c:k<n:=oo;obtain⟨F,r,B⟩:=t.head c;refine⟨_,rfl,oo,oo,_,_,_,t.sep.cell B,?_⟩;refine t.sep.call (Ao ⟨oo,oo⟩ ?_);intro G u f l N j;have one:((1:Int):Rat)=1:=rfl;rw[one]at l;refine⟨_,_,_,_,_,_,_,_,rfl,t.sep.le_le j f,_,rfl,oo,oo,?_⟩;refine(t.next j f).store c c l ?_;intro O E s _;rw[wiS k oo];refine⟨⟨k+1,u,E,oo,rfl,B0 i f,s.congr fun a b _ _=>?_⟩,by simp only[O8];omega⟩;unfold A9o unP;by_cases e:a=k/\b=k;{rw[iP e,iP oo]};·rw[iN e];by_cases m:a=b/\a<k;{rw[iP m,iP oo]};·rw[iN m,iN oo]};·have:k=n:=oo;subst this;exact hK d g o bo rb i (t.congr fun a b C _=>by unfold unP;by_cases e:a=b;{rw[iP ⟨e,C⟩,iP e]};·rw[iN (fun x=>e x.1),iN e])
end
structure Gd (h g o:aH) (ba:Nat) (ra:Nat->Nat) (bl:Nat) (rl:Nat->Nat) (n:Nat) (P L:Nat->Nat->Rat) (A:Option aL) (c k:Nat) (D:Nat->Rat):Prop where
 a:Mt h g o ba ra n n P
 l:Mt h g o bl rl n n L
 d:∃ xs:List QV,OwnSl o 37 A c xs/\xs.length=k/\Row NQr g xs k D
 al:∀ x,inR ba ra n x->¬ inR bl rl n x
 ad:∀ x,A=some ⟨x,0,none⟩->¬ inR ba ra n x/\¬ inR bl rl n x
section
variable {h g o:aH} {ba bl n c k:Nat} {ra rl:Nat->Nat} {P L:Nat->Nat->Rat} {A:Option aL} {D:Nat->Rat}
def Gd.next(X:Gd h g o ba ra bl rl n P L A c k D){h' g':aH}(s:Sep h' g' o)(l:g.le g'):Gd h' g' o ba ra bl rl n P L A c k D:=by obtain⟨f,i,e,q⟩:=X.d;exact⟨X.a.next s l,X.l.next s l,⟨f,i,e,q.mono F0 l⟩,X.al,X.ad⟩
def Gd.congr(X:Gd h g o ba ra bl rl n P L A c k D){P' L':Nat->Nat->Rat}(e1:∀i j,i<n->j<n->P i j=P' i j)(e2:∀i j,i<n->j<n->L i j=L' i j):Gd h g o ba ra bl rl n P' L' A c k D:=⟨X.a.congr e1,X.l.congr e2,X.d,X.al,X.ad⟩
def Gd.storeA(X:Gd h g o ba ra bl rl n P L A c k D){i j:Nat}(hi:i<n)(hj:j<n){x:QV}{q:Rat}(hx:NQ g x q){K:Unit->aH->Prop} (y:∀h' o',Gd h' g o' ba ra bl rl n (A9o P i j q) L A c k D->K () h'):wpH prog (bD 37 (.pointer (some (aF ⟨ra i,0,none⟩ (j*4)))) x.v) K h:=by refine X.a.store hi hj hx ?_;intro h' o' m ko;have p:∀y,¬inR ba ra n y->o' y=o y:=fun y f=>ko y (fun e=>f (.inr ⟨i,hi,e⟩));obtain⟨s,w,e,r⟩:=X.d;exact y h' o' ⟨m,X.l.keep m.sep (B7 _) (fun y z e f=>by rw[p y (fun t=>X.al y t f)];exact e),⟨s,w.keep fun b x u hx=>by rw[p b (X.ad b u).1];exact hx,e,r⟩,X.al,X.ad⟩
def Gd.storeL(X:Gd h g o ba ra bl rl n P L A c k D){i j:Nat}(hi:i<n)(hj:j<n){x:QV}{q:Rat}(hx:NQ g x q){K:Unit->aH->Prop} (y:∀h' o',Gd h' g o' ba ra bl rl n P (A9o L i j q) A c k D->K () h'):wpH prog (bD 37 (.pointer (some (aF ⟨rl i,0,none⟩ (j*4)))) x.v) K h:=by refine X.l.store hi hj hx ?_;intro h' o' m ko;have p:∀y,¬inR bl rl n y->o' y=o y:=fun y f=>ko y (fun e=>f (.inr ⟨i,hi,e⟩));obtain⟨s,u,e,r⟩:=X.d;exact y h' o' ⟨X.a.keep m.sep (B7 _) (fun y z e f=>by rw[p y (X.al y f)];exact e),m,⟨s,u.keep fun b x t hx=>by rw[p b (X.ad b t).2];exact hx,e,r⟩,X.al,X.ad⟩
def Gd.push(X:Gd h g o ba ra bl rl n P L A c k D)(hk:k<=10000){w:QV}{q:Rat}(hw:NQ g w q){K:Option aL->Nat->Nat->aH->Prop} (y:∀A' c' h' g' o',g.le g'->Gd h' g' o' ba ra bl rl n P L A' c' (k+1) (fun i=>if i=k then q else D i)->K A' (k+1) c' h'): wpH prog (cF 27 1 #[(0,w.v)]) (fun v' hp=>∃(B:Option aL) (m d:Nat),v'= .slice B m d/\wpH prog (cJ #[27,27] 27 #[.slice A k c,.slice B m d]) (fun v1 hp1=>∃(A':Option aL) (n' c':Nat),v1= .slice A' n' c'/\K A' n' c' hp1) hp) h:=by obtain⟨xs,M,e,G⟩:=X.d;refine J0 (n:=k) V4 X.a.sep M e.symm (y:=w) rfl dc oo oo ?_;intro A' c' h' g' o' s E N ko;have t:∀x,(inR ba ra n x\/inR bl rl n x)->A≠some ⟨x,0,none⟩:=fun x p u=>by{obtain⟨H,F⟩:=X.ad x u;rcases p with p|p;{exact H p};·exact F p};rw[e];refine y A' c' h' g' o' s ⟨X.a.keep E s (fun x z p j=>(ko x z p (t x (.inl j))).1),X.l.keep E s (fun x z p j=>(ko x z p (t x (.inr j))).1),⟨_,N,by rw[bM,e];rfl,?_⟩,X.al,fun x u=>⟨fun j=>?_,fun j=>?_⟩⟩;{have r:=Row.push (R:=NQr) (g:=g') (xs:=xs) (f:=fun i=>if i=k then q else D i) (w:=w) (by rw[e];exact(G.mono F0 s).congr fun i j=>by rw[iN oo]) (by rw[e,iP rfl];exact NQ.mono s hw);rw[bM,e]at r;exact r};{obtain⟨z,C⟩:=X.a.blk j;exact(ko x z C (t x (.inl j))).2 u};·obtain⟨z,C⟩:=X.l.blk j;exact(ko x z C (t x (.inr j))).2 u
end
def stA(A:Nat->Nat->Rat)(k i j:Nat):Nat->Nat->Rat:=fun a b=>if k<b/\((k<a/\a<i)\/(a=i/\b<j))then ldA A (k+1) a b else ldA A k a b
def stL(A:Nat->Nat->Rat)(k i:Nat):Nat->Nat->Rat:=fun a b=>if b<k\/(b=k/\a<i)then ldL A a b else if a=b then 1 else 0
section
variable {h:aH} {K:VP} {A:Option aL} {n cap Q:Nat} {E:Nat->Rat}
def Up(rs:cK h A n n (mtx E n))(hn1:1<=n)(hn:n<=64)(hF:∀k,k<=n->(∀m,m<k->Jv (mtx E n) n m)->LdF E n k Q)(hQ1:1<=Q)(hQ:3*Q+1<=400000000)
 (hK1:(∀k,k<n->Jv (mtx E n) n k)->∀bo A' c' h',h.le h'->n<=c'->cK h' (some ⟨bo,0,none⟩) n n (fun i j=>ldL (mtx E n) i j)->aM NQr h' A' n (ldD (mtx E n))->K (.tuple #[.slice (some ⟨bo,0,none⟩) n n,.slice A' n c',.bool true]) h')
 (hK0:(¬∀k,k<n->Jv (mtx E n) n k)->∀h',h.le h'->K (.tuple #[.slice none 0 0,.slice none 0 0,.bool false]) h'):aO prog 177 #[.slice A n cap] h K:=by
 refine(fnk func177 [(5,[8,9],[],[.slice none 0 0,I 0]),(11,[10],[],[I 0]),(18,[11],[],[I 0])]) ?_;refine Qg rs oo hn1 oo hn1 ?_;intro G g1 o1 ba ra ca l1 ta;refine⟨_,_,_,rfl,?_⟩;refine ta.sep.call (A5k oo ?_);intro bw g2 o2 bl rl l2 tl D s2;refine⟨_,_,_,rfl,?_⟩;have j1:∀k x,o2 k=some x->(o1.join o2) k=some x:=fun k x e=>by show(match o2 k with|some x=>some x|none=>o1 k)=_;rw[e]
 have dj:∀k x,o1 k=some x->o2 k=none:=fun k x e=>by
  cases h0:o2 k with
  |none=>rfl
  |some y=>
   have e1:=s2.dis k x e;rw[tl.sep.own k y h0]at e1;cases e1
 have j2:∀k x,o1 k=some x->(o1.join o2) k=some x:=fun k x e=>by show(match o2 k with|some x=>some x|none=>o1 k)=_;rw[dj k x e];exact e
 have sj:=s2.join tl.sep
 have X0:Gd D g2 (o1.join o2) ba ra bl rl n (mtx E n) (stL (mtx E n) 0 0) none 0 0 (ldD (mtx E n)):=⟨ta.keep sj l2 fun k x e _=>j2 k x e,(tl.keep sj (B7 _) fun k x e _=>j1 k x e).congr fun a b _ _=>by unfold stL;rw[iN (show ¬(b<0\/b=0/\a<0)from oo)],⟨[],OwnSl.nil,rfl,Row.nil⟩,fun x hx hy=>(by
  obtain⟨y,a9⟩:=ta.blk hx;obtain⟨z,hz⟩:=tl.blk hy;rw[dj x y a9]at hz;cases hz),fun x hA=>by cases hA⟩;refine⟨fun L hp=>∃(k:Nat) (g o:aH) (P:Nat->Nat->Rat) (A':Option aL) (c:Nat),k<=n/\L=[.slice A' k c,I (k:Int)]/\h.le g/\(∀m,m<k->Jv (mtx E n) n m)/\(∀i j,k<=i->i<n->k<=j->j<n->P i j=ldA (mtx E n) k i j)/\Gd hp g o ba ra bl rl n P (stL (mtx E n) k 0) A' c k (ldD (mtx E n)),fun L _=>n-(iAt L 1).toNat,⟨0,g2,_,_,none,0,oo,rfl,B0 l1 l2,fun m hm=>oo,fun i j _ _ _ _=>rfl,X0⟩,?_⟩;clear X0 sj j1 j2 dj s2 tl ta;rintro dA f dc z hp ⟨k,g,o,P,A',c,hk,eL,lg,ok,hP,X⟩;obtain⟨⟨rfl,rfl,rfl⟩,rfl⟩:=sI2 eL;refine C1 (fun bn=>?_) (fun bx=>?_);rotate_left
 ·have:f=n:=oo;subst this;obtain⟨xs,o3,e,q⟩:=X.d;refine hK1 ok bl dA dc hp (B0 lg X.a.sep.le) (by have:=o3.1;omega) (X.l.rowsV.congr fun i j _ hj=>by unfold stL;rw[iP (.inl hj)]) ⟨xs,o3.slF X.a.sep.ole,e,q.mono F0 X.a.sep.le⟩
 have s:f<n:=oo;have F:=hF f hk ok
 have F1:=fun ok1:Jv (mtx E n) n f=>hF (f+1) s fun m hm=>by
  by_cases c:m=f;·rw[c];exact ok1
  ·exact ok m oo
 have a7:=F.zA f f (aC _) s s;obtain⟨cc,bz,hh⟩:=X.a.head s;obtain⟨x,ix,x0,x1,x2,x3⟩:=X.a.elem s s;rw[hP f f (aC _) s (aC _) s]at ix;have N:=X.a.sep;have bb:=B0 lg N.le;refine⟨_,rfl,oo,oo,_,_,_,N.cell hh,_,rfl,oo,oo,_,_,_,_,_,_,_,_,N.cell x0,N.cell x1,N.cell x2,N.cell x3,?_⟩;refine S2 (NQ.mono N.le ix) ⟨_,rfl,C1 (fun aj=>?_) (fun an=>?_)⟩
 ·have au:=B0e.1 aj;exact hK0 (fun y=>absurd (y f s).1 gz0) hp bb
 have aq:0<=ldA (mtx E n) f f f:=by
  have:¬ldA (mtx E n) f f f<0:=fun c=>an (B0e.2 c);grind
 refine⟨_,rfl,oo,oo,_,_,_,N.cell hh,_,rfl,oo,oo,_,_,_,_,_,_,_,_,N.cell x0,N.cell x1,N.cell x2,N.cell x3,?_⟩;refine X.push oo (w:=x) ix ?_;intro A5 c5 h5 g5 o5 l5 X5;have T:∀{i:Nat},i<n->C4 ((i:Int)+1)=((i+1:Nat):Int):=fun {i} hi=>by rw[C2]<;>omega
 rw[T s]
 have eD:∀i,i<f+1->(if i=f then ldA (mtx E n) f f f else ldD (mtx E n) i)=ldD (mtx E n) i:=fun i _=>by
  by_cases c:i=f;·rw[iP c,c];rfl
  ·rw[iN c]
 have X6:∀{hp g o:aH} {P L:Nat->Nat->Rat},Gd hp g o ba ra bl rl n P L A5 c5 (f+1) (fun i=>if i=f then ldA (mtx E n) f f f else ldD (mtx E n) i)->Gd hp g o ba ra bl rl n P L A5 c5 (f+1) (ldD (mtx E n)):=fun Y=>by
  obtain⟨xs,o1,e,q⟩:=Y.d;exact⟨Y.a,Y.l,⟨xs,o1,e,q.congr eD⟩,Y.al,Y.ad⟩
 have X7:=X6 X5;clear X6 X5;refine⟨fun L hq=>∃(i:Nat) (g' o':aH) (P':Nat->Nat->Rat),f<i/\i<=n/\L=[I (i:Int)]/\h.le g'/\(ldA (mtx E n) f f f=0->∀i',f<i'->i'<i->ldA (mtx E n) f i' f=0)/\(∀a b,f<=a->a<n->f<=b->b<n->P' a b=stA (mtx E n) f i 0 a b)/\Gd hq g' o' ba ra bl rl n P' (stL (mtx E n) f i) A5 c5 (f+1) (ldD (mtx E n)),fun L _=>n-(iAt L 0).toNat,⟨f+1,g5,o5,P,oo,oo,rfl,B0 lg l5,fun _ i' G D=>oo,fun a b R O G D=>by unfold stA;rw[iN oo];exact hP a b R O G D,X7.congr (fun _ _ _ _=>rfl) (fun a b _ _=>?_)⟩,?_⟩
 ·unfold stL;by_cases c:b<f;·rw[iP (.inl c),iP (.inl c)]
  ·rw[iN oo];by_cases c2:b=f/\a<f+1
   ·rw[iP (show b<f\/b=f/\a<f+1 from .inr c2)];by_cases c3:a=b;·rw[iP c3,c3,B1s]
    ·rw[iN c3,B1t oo]
   ·rw[iN (show ¬(b<f\/b=f/\a<f+1)from oo)]
 clear X7;rintro z6 hq ⟨i,g6,o6,P6,ay,bk,eL,W,hz,M,X6⟩;obtain rfl:=sI1 eL;have t:=X6.a.sep;have a3:=B0 W t.le;refine C1 (fun be=>?_) (fun bf=>?_);rotate_left
 ·have a5:i=n:=oo;subst a5;have ah:Jv (mtx E i) i f:=⟨aq,fun e j G D=>hz e j G D⟩;refine⟨⟨f+1,g6,o6,P6,A5,c5,oo,rfl,W,fun m hm=>?_,fun a b R O G D=>?_,X6.congr (fun _ _ _ _=>rfl) (fun a b R _=>?_)⟩,?_⟩
  ·by_cases c:m=f;·rw[c];exact ah
   ·exact ok m oo
  ·rw[M a b oo O oo D];unfold stA;rw[iP oo]
  ·unfold stL;by_cases c:b<f+1;·rw[iP (show b<f\/b=f/\a<i from oo),iP (.inl c)]
   ·rw[iN (show ¬(b<f\/b=f/\a<i)from oo),iN (show ¬(b<f+1\/b=f+1/\a<0)from oo)]
  ·show i-((f+1:Nat):Int).toNat<i-((f:Nat):Int).toNat;omega
 have B:i<n:=oo;obtain⟨ck,bm,ao⟩:=X6.a.head s;obtain⟨ci,br,am⟩:=X6.a.head B;obtain⟨y,iy,y0,y1,y2,y3⟩:=X6.a.elem s s;obtain⟨u,iu,u0,u1,u2,u3⟩:=X6.a.elem B s;have ax:P6 f f=ldA (mtx E n) f f f:=by rw[M f f (aC _) s (aC _) s];unfold stA;rw[iN oo]
 have a0:P6 i f=ldA (mtx E n) f i f:=by rw[M i f oo B (aC _) s];unfold stA;rw[iN oo]
 rw[ax]at iy;rw[a0]at iu;refine⟨_,rfl,oo,oo,_,_,_,t.cell ao,_,rfl,oo,oo,_,_,_,_,_,_,_,_,t.cell y0,t.cell y1,t.cell y2,t.cell y3,?_⟩;have S:∀{q:Rat},q.num.sign=0↔q=0:=fun {q}=>by rw[Int.sign_eq_zero_iff_zero];exact Rat.num_eq_zero
 refine S2 (NQ.mono t.le iy) ⟨_,rfl,D5 (fun he=>?_) (fun af=>?_)⟩
 ·have e0:=S.1 he;refine⟨_,rfl,oo,oo,_,_,_,t.cell am,_,rfl,oo,oo,_,_,_,_,_,_,_,_,t.cell u0,t.cell u1,t.cell u2,t.cell u3,?_⟩;refine S2 (NQ.mono t.le iu) ⟨_,rfl,E6 (fun af=>?_) (fun a8=>?_)⟩;·exact hK0 (fun y=>af (S.2 ((y f s).2 e0 i ay B))) hq a3
  ·have a2:=S.1 a8;rw[T B]
   have eA:∀a b,ldA (mtx E n) (f+1) a b=ldA (mtx E n) f a b:=fun a b=>by
    show(if ldA (mtx E n) f f f=0 then _ else _)=_;rw[iP e0]
   refine⟨⟨i+1,g6,o6,P6,oo,oo,rfl,W,fun e i' G D=>?_,fun a b R O G D=>?_,X6.congr (fun _ _ _ _=>rfl) (fun a b _ _=>?_)⟩,by simp only[O8];omega⟩
   ·by_cases c:i'=i;·rw[c];exact a2
    ·exact hz e i' G oo
   ·rw[M a b R O G D];unfold stA;rw[eA];split<;>split<;>rfl
   ·unfold stL;by_cases c:b<f\/b=f/\a<i;·rw[iP c,iP oo]
    ·rw[iN c];by_cases c2:b=f/\a=i
     ·rw[iP (show b<f\/b=f/\a<i+1 from oo),iN oo,c2.1,c2.2];unfold ldL;rw[iN oo,iN oo,iP e0]
     ·rw[iN (show ¬(b<f\/b=f/\a<i+1)from oo)]
 have aa:ldA (mtx E n) f f f≠0:=fun e=>af (S.2 e);have ah:Jv (mtx E n) n f:=⟨aq,fun e=>absurd e aa⟩;have F2:=F1 ah;obtain⟨cl,b3,a6⟩:=X6.l.head B;refine⟨_,rfl,oo,oo,_,_,_,t.cell a6,_,rfl,oo,oo,_,_,_,t.cell am,_,rfl,oo,oo,_,_,_,_,_,_,_,_,t.cell u0,t.cell u1,t.cell u2,t.cell u3,_,rfl,oo,oo,_,_,_,t.cell ao,_,rfl,oo,oo,_,_,_,_,_,_,_,_,t.cell y0,t.cell y1,t.cell y2,t.cell y3,?_⟩;refine t.call (A1w (m:=Q) iu iy (F.zA i f oo B s) a7 oo ?_);intro w7 g7 l7 i7 h7 s7;refine⟨_,_,_,_,_,_,_,_,rfl,t.le_le s7 l7,_,rfl,oo,oo,?_⟩;refine(X6.next s7 l7).storeL B s i7 ?_;intro h8 o8 X8
 have ak:ldA (mtx E n) f i f/ldA (mtx E n) f f f=ldL (mtx E n) i f:=by
  unfold ldL;rw[iN oo,iN oo,iN aa]
 rw[ak]at X8
 have X9:Gd h8 g7 o8 ba ra bl rl n P6 (stL (mtx E n) f (i+1)) A5 c5 (f+1) (ldD (mtx E n)):=X8.congr (fun _ _ _ _=>rfl) (fun a b _ _=>by
  unfold A9o stL;by_cases c:a=i/\b=f;·rw[iP c,iP (.inr ⟨c.2,oo⟩),c.1,c.2]
  ·rw[iN c];by_cases c2:b<f\/b=f/\a<i;·rw[iP c2,iP oo]
   ·rw[iN c2,iN (show ¬(b<f\/b=f/\a<i+1)from oo)]);clear X8
 refine⟨fun L hq=>∃(j:Nat) (g' o':aH) (P':Nat->Nat->Rat),f<j/\j<=n/\L=[I (j:Int)]/\h.le g'/\(∀a b,f<=a->a<n->f<=b->b<n->P' a b=stA (mtx E n) f i j a b)/\Gd hq g' o' ba ra bl rl n P' (stL (mtx E n) f (i+1)) A5 c5 (f+1) (ldD (mtx E n)),fun L _=>n-(iAt L 0).toNat,⟨f+1,g7,o8,P6,oo,oo,rfl,B0 W l7,fun a b R O G D=>by
  rw[M a b R O G D];unfold stA;by_cases c:f<b/\((f<a/\a<i)\/(a=i/\b<0));·rw[iP c,iP oo]
  ·rw[iN c,iN oo],X9⟩,?_⟩;clear X9 X6 M;rintro bi hr ⟨j,a1,az,P10,bp,b4,eL,ae,H,X10⟩;obtain rfl:=sI1 eL;have r:=X10.a.sep;refine C1 (fun bg=>?_) (fun bd=>?_);rotate_left
 ·have av:j=n:=oo;subst av;rw[T B];refine⟨⟨i+1,a1,az,P10,oo,oo,rfl,ae,fun e=>absurd e aa,fun a b R O G D=>?_,X10⟩,by simp only[O8];omega⟩;rw[H a b R O G D];unfold stA;by_cases c:f<b/\((f<a/\a<i)\/(a=i/\b<j));·rw[iP c,iP oo]
  ·rw[iN c,iN oo]
 have C:j<n:=oo;obtain⟨c1,b5,d1⟩:=X10.a.head B;obtain⟨c2,bq,d2⟩:=X10.a.head s;obtain⟨c3,bt,d3⟩:=X10.l.head B;obtain⟨p,ip,p0,p1,p2,p3⟩:=X10.a.elem B C;obtain⟨q,iq,q0,q1,q2,q3⟩:=X10.l.elem B s;obtain⟨v,iv,v0,v1,v2,v3⟩:=X10.a.elem s C;have e1:P10 i j=ldA (mtx E n) f i j:=by rw[H i j oo B oo C];unfold stA;rw[iN oo]
 have e2:P10 f j=ldA (mtx E n) f f j:=by rw[H f j (aC _) s oo C];unfold stA;rw[iN oo]
 have e3:stL (mtx E n) f (i+1) i f=ldL (mtx E n) i f:=by unfold stL;rw[iP (.inr ⟨rfl,oo⟩)]
 rw[e1]at ip;rw[e2]at iv;rw[e3]at iq;refine⟨_,rfl,oo,oo,_,_,_,r.cell d1,_,rfl,oo,oo,_,_,_,r.cell d1,_,rfl,oo,oo,_,_,_,_,_,_,_,_,r.cell p0,r.cell p1,r.cell p2,r.cell p3,_,rfl,oo,oo,_,_,_,r.cell d3,_,rfl,oo,oo,_,_,_,_,_,_,_,_,r.cell q0,r.cell q1,r.cell q2,r.cell q3,_,rfl,oo,oo,_,_,_,r.cell d2,_,rfl,oo,oo,_,_,_,_,_,_,_,_,r.cell v0,r.cell v1,r.cell v2,r.cell v3,?_⟩;have zl:=B6t F s hQ1 B;have zv:=F.zA f j (aC _) s C;refine r.call (K9 (m:=2*Q) iq iv zl (zv.mono oo) oo ?_);intro bu bj ac aw b1 V;refine⟨_,_,_,_,_,_,_,_,rfl,r.le_le V ac,?_⟩;refine V.call (A1r (m:=3*Q+1) (NQ.mono ac ip) aw ((F.zA i j oo B C).mono oo) ((zl.mul zv).mono oo) oo ?_);intro b2 bc ai a4 bv ap;refine⟨_,_,_,_,_,_,_,_,rfl,V.le_le ap ai,_,rfl,oo,oo,?_⟩;refine((X10.next V ac).next ap ai).storeA B C a4 ?_;intro bh ar X13;rw[T C];refine⟨⟨j+1,bc,ar,_,oo,oo,rfl,B0 ae (B0 ac ai),fun a b R O G D=>?_,X13⟩,by simp only[O8];omega⟩
 have ag:ldA (mtx E n) f i j-ldL (mtx E n) i f*ldA (mtx E n) f f j=ldA (mtx E n) (f+1) i j:=by
  show _=(if ldA (mtx E n) f f f=0 then _ else _);rw[iN aa,<- ak];grind
 unfold A9o;by_cases c:a=i/\b=j
 ·rw[iP c,ag,c.1,c.2];unfold stA;rw[iP oo]
 ·rw[iN c,H a b R O G D];unfold stA;by_cases c2:f<b/\((f<a/\a<i)\/(a=i/\b<j));·rw[iP c2,iP oo]
  ·rw[iN c2,iN oo]
def Wo(rs:cK h A n n (mtx E n))(hn1:1<=n)(hn:n<=64)(hF:∀k,k<=n->(∀m,m<k->Jv (mtx E n) n m)->LdF E n k Q)(hQ1:1<=Q)(hQ:3*Q+1<=400000000) (hK1:(∀k,k<n->Jv (mtx E n) n k)->∀h',h.le h'->K (.bool true) h') (hK0:(¬∀k,k<n->Jv (mtx E n) n k)->∀h',h.le h'->K (.bool false) h'):aO prog 124 #[.slice A n cap] h K:=by refine(fnk func124) ?_;exact Up rs hn1 hn hF hQ1 hQ (fun ok _ _ _ h' l _ _ _=>⟨_,_,_,_,_,_,_,rfl,hK1 ok h' l⟩) (fun c h' l=>⟨_,_,_,_,_,_,_,rfl,hK0 c h' l⟩)
end
section
variable {h:aH} {K:VP} {A B lA cA:Option aL} {n ln lc cn cc cap cap2 m m2:Nat} {ls cs:Nat->List UInt8} {R:Nat->Nat->Rat} {f:Nat->Rat}
end
section
set_option maxRecDepth 100000
variable {h:aH} {K:VP}
end
section
variable {h g o:aH} {be:Nat} {T:Tb} {M:Nat->Nat->Int} {S:Nat->Rat} {n k m sc:Nat} {w:IV} {z:Int} {L D:aU} {K:VP}
end
section
variable {h:aH} {K:VP} {A:Option aL} {n cap m:Nat} {r c:Int} {ls:Nat->List UInt8} {E:Nat->Rat}
end
def SqE.not{r c:Int}{n q:Nat}{ls:Nat->List UInt8}{e:Int}(sq:SqOk r c n ls q)(x:SqE r c n ls e):False:=by rcases x with⟨x,_⟩|⟨_,x,_⟩;{exact x ⟨_,_,sq.1⟩};·exact x ⟨_,sq⟩
section
variable {h:aH} {lA cA tA:Option aL} {ln lc cn cc tn tc:Nat} {ls cs ts:Nat->List UInt8}
end
section
variable {h g o:aH} {bo n k m cap:Nat} {rb:Nat->Nat} {P R A0 F:Nat->Nat->Rat} {d:Nat->Rat} {K:VP}
end
def gz(m:Nat):Nat->Nat
 |0=>m
 |k+1=>16*gz m k+13
section
variable {h:aH} {A:Option aL} {n m cap:Nat} {E:Nat->Rat} {K:VP}
end
structure FOut where
 r:Int
 n:Nat
 f:Nat->List UInt8
 dn:Nat
 g:Nat->List UInt8
 ok:Bool
 e:Int
def noF(e:Int):FOut:=⟨0,0,fun _=>[],0,fun _=>[],false,e⟩
def FacO(r c:Int)(n:Nat)(ls:Nat->List UInt8)(o:FOut):Prop:=(∃e,SqE r c n ls e/\o=noF e)\/∃q,SqOk r c n ls q/\(((∀k,k<q->Jv (mtx (rvs ls) q) q k)/\o=⟨(q:Int),q*q,fun t=>F3 (A8w (mtx (rvs ls) q) q q t),q,fun t=>F3 (A9b (mtx (rvs ls) q) q t),true,0⟩)\/((¬∀k,k<q->Jv (mtx (rvs ls) q) q k)/\o=noF 0))
section
variable {r c:Int} {n:Nat} {ls:Nat->List UInt8}
def SqE.eq{e e':Int}(x:SqE r c n ls e)(y:SqE r c n ls e'):e=e':=by rcases x with⟨x1,rfl⟩|⟨x1,x2,rfl⟩<;>rcases y with⟨y1,rfl⟩|⟨y1,y2,rfl⟩;{rfl};{exact absurd y1 x1};{exact absurd x1 y1};·rfl
def SqOk.eq{q q':Nat}(x:SqOk r c n ls q)(y:SqOk r c n ls q'):q=q':=by have:=x.1.er;have:=y.1.er;omega
def FacO.eq{o p:FOut}(x:FacO r c n ls o)(y:FacO r c n ls p):o=p:=by rcases x with⟨e,x1,rfl⟩|⟨q,x1,x2⟩<;>rcases y with⟨e',y1,rfl⟩|⟨q',y1,y2⟩;{rw[x1.eq y1]};{exact(x1.not y1).elim};{exact(y1.not x1).elim};·obtain rfl:=x1.eq y1;rcases x2 with⟨a,rfl⟩|⟨a,rfl⟩<;>rcases y2 with⟨b,rfl⟩|⟨b,rfl⟩;{rfl};{exact absurd a b};{exact absurd b a};·rfl
end
section
variable {h:aH} {K:VP} {A A2 B B2:Option aL} {n cap cap2 cap3 cap4 m Q:Nat} {r c:Int} {ls:Nat->List UInt8}
def A9c(gl:Gl h)(rv':aM SSr h A n ls)(hn:n<=1000000)(hl:LL n ls)(hs:∀i,i<n->Sz m (rv (ls i)))(hb:∀q,MOk r c n ls q q->3^q*bnd q m+bnd q m<=Q)(hQ:Q<=20000000) (hK:∀o,FacO r c n ls o->∀A' B' c1 c2 h',h.le h'->aM SSr h' A' o.n o.f->aM SSr h' B' o.dn o.g->K (.tuple #[.agg #[I o.r,I o.r,.slice A' o.n c1,.slice B' o.dn c2],.bool o.ok,I o.e]) h'):aO prog 145 #[Jz r c A n cap] h K:=by refine A39 gl rv' hn hl hs hb hQ (fun q sq ok s t h' j k=>?_) (fun q sq ok h' j=>hK (noF 0) (.inr ⟨q,sq,.inr ⟨ok,rfl⟩⟩) none none 0 0 h' j RowV.nil RowV.nil) (fun e p h' j=>hK (noF e) (.inl ⟨e,p,rfl⟩) none none 0 0 h' j RowV.nil RowV.nil);obtain⟨rfl,rfl,_⟩:=id sq.1;exact hK ⟨_,_,_,_,_,_,_⟩ (.inr ⟨q,sq,.inl ⟨ok,rfl⟩⟩) _ _ _ _ h' j k.l k.d
end
def fl(M:Nat->Nat->Rat)(w:Nat):Nat->Rat:=fun k=>M (k/w) (k%w)
def V9(M:Nat->Nat->Rat)(w:Nat):rvs (R9 M w)=fl M w:=funext fun _=>H2 _
def K3(M:Nat->Nat->Rat){w i j:Nat}(hj:j<w):mtx (fl M w) w i j=M i j:=by obtain⟨d,c⟩:=dm1 (i:=i) hj;show M ((i*w+j)/w) ((i*w+j)%w)=_;rw[d,c]
structure FM (h:aH) (A:Option aL) (p w m:Nat) (M:Nat->Nat->Rat):Prop where
 r1:1<=p
 r2:p<=64
 c1:1<=w
 c2:w<=64
 row:aM SSr h A (p*w) (R9 M w)
 sz:∀ i j,i<p->j<w->Sz m (M i j)
section
variable {h h':aH} {K:VP} {A B:Option aL} {c c2 p q w m n:Nat} {M X:Nat->Nat->Rat}
def FM.mono(l:h.le h')(x:FM h A p w m M):FM h' A p w m M:=⟨x.r1,x.r2,x.c1,x.c2,x.row.mono E9 l,x.sz⟩
def FM.ok(x:FM h A p w m M):MOk p w (p*w) (R9 M w) p w:=⟨rfl,rfl,x.r1,x.r2,x.c1,x.c2,rfl,fun _ _=>⟨_,rfl⟩⟩
def FM.mx(x:FM h A p w m M):Mx p w (p*w) (R9 M w):=⟨_,_,x.ok⟩
def FM.nn(x:FM h A p w m M):p*w<=1000000:=bG (aK x.r2 x.c2) dc
def FM.at(x:FM h A p w m M){i:Nat}(hi:i<p*w):Sz m (fl M w i):=x.sz _ _ (bJ (by rw[cC];exact hi)) (cL _ x.c1)
def FM.szs(x:FM h A p w m M):∀i,i<p*w->Sz m (rv (R9 M w i)):=fun i c=>by show Sz m (rv (F3 _));rw[H2];exact x.at c
def FM.len(x:FM h A p w m M)(hm:m<=40000000):∀i,i<p*w->(R9 M w i).length<=100000000:=fun i c=>by have:=Yu (x.at c);show(F3 (fl M w i)).length<=_;omega
def Kf{p w r k n:Nat}{ls:Nat->List UInt8}(x:MOk (p:Int) (w:Int) n ls r k):r=p/\k=w:=by have:=x.er;have:=x.ec;omega
def C2l(M:Nat->Nat->Rat)(p w:Nat):(elE (fl M w) p w w).cs=(ecE M p w).cs:=(Sf (n:=p) (w:=w) (fun _ _ _ c=>K3 M c) w (aC _)).1
def Uf(gl:Gl h)(x:FM h A p w m M)(hm:2*(3^w*bnd w m)+1<=100000000)(hm0:m<=40000000)(hK:K (.tuple #[I ((ecE M p w).cs.length:Int),I 0]) h):aO prog 109 #[Jz p w A (p*w) c] h K:=by refine FCall.pure (A8p gl x.row x.nn (x.len hm0) x.szs (fun r k mk=>?_) (fun r k mk e d=>?_) fun no=>absurd x.mx no);{obtain⟨rfl,rfl⟩:=Kf mk;exact hm};·obtain⟨rfl,rfl⟩:=Kf mk;rw[V9,C2l];exact⟨d,hK⟩
def Zr(gl:Gl h)(x:FM h A p w m M)(hm:2*(3^w*bnd w m)+1<=40000000)(hm0:m<=40000000)(hK:∀b A' c' h',h.le h'->SlF h' A' (zs (ecE M p w).cs)->K (.tuple #[Jz p w b (p*w) (p*w),.slice A' (ecE M p w).cs.length c',I 0]) h'):aO prog 146 #[Jz p w A (p*w) c] h K:=by refine A2h gl x.row x.nn (x.len hm0) x.szs (fun r k mk=>?_) (fun r k mk b d A' c' o=>?_) fun no=>absurd x.mx no;{obtain⟨rfl,rfl⟩:=Kf mk;exact hm};·obtain⟨rfl,rfl⟩:=Kf mk;rw[V9,C2l]at *;exact hK _ _ _ _ o.le o.ints.1
def Wn(gl:Gl h)(x:FM h A p p m M)(hi:Ib (fl M p) p)(hm1:1<=m)(hm:2*(3^p*bnd (p+p) m)+1<=40000000)(hm0:m<=40000000)(hK:∀A' c' h',h.le h'->aM SSr h' A' (p*p) (R9 (Qe (fl M p) p) p)->K (.tuple #[Jz p p A' (p*p) c',I 0]) h'):aO prog 148 #[Jz p p A (p*p) c] h K:=by refine Zy gl x.row x.nn (x.len hm0) x.szs hm1 (fun q mk=>?_) fun o f A' c' g e d=>?_;{obtain⟨rfl,_⟩:=Kf mk;exact hm};·obtain rfl:=f.eq (.inr (.inr ⟨p,x.ok,.inl ⟨by rw[V9];exact hi,rfl⟩⟩));rw[V9]at d;exact hK _ _ _ e d
def Dh(n:Nat)(M X:Nat->Nat->Rat):Nat->Nat->Rat:=fun i j=>sm n fun t=>M i t*X t j
def Xx(gl:Gl h)(x:FM h A p n m M)(y:FM h B n w m X)(hm1:1<=m)(hm:2*(1+n*(2*m+1)+2*m)+14<=40000000)(hK:∀A' c' h',h.le h'->aM SSr h' A' (p*w) (R9 (Dh n M X) w)->K (.tuple #[Jz p w A' (p*w) c',I 0]) h'):aO prog 176 #[Jz p n A (p*n) c,Jz n w B (n*w) c2] h K:=by have e:m<=40000000:=oo;refine A8u (d:=n) gl x.row y.row x.nn y.nn (x.len e) (y.len e) x.szs y.szs hm1 (fun r k mk=>by have:=(Kf mk).2;omega) hm fun o mo A' c' s i q=>?_;rcases mo with⟨no,_⟩|⟨_,_,no,_⟩|⟨r,k,l,mk,f,rfl⟩;{exact absurd ⟨x.mx,y.mx⟩ no};{exact absurd rfl no};·obtain⟨rfl,rfl⟩:=Kf mk;obtain⟨_,rfl⟩:=Kf f;refine hK _ _ _ i (q.congr fun t u=>congrArg F3 (C5 fun j g=>?_));rw[V9,V9,K3 M g,K3 X (cL _ y.c1)]
def Im{b:Nat->Rat}(gl:Gl h)(x:FM h A p w m M)(rb:aM SSr h B p (fun i=>F3 (b i)))(sb:∀i,i<p->Sz m (b i))(ok:S0 (fl M w) b p w)(hm1:1<=m)(hm:2*(3^w*bnd (w+1) m)+1<=40000000/\2*(3^p*bnd (p+1) m)+1<=40000000/\7^w*m<=40000000/\7^p*m<=40000000) (hK:∀A' c' B2 n2 c2 h',h.le h'->aM SSr h' A' w (fun i=>F3 (Hi (fl M w) b p w i))->K (.tuple #[.slice A' w c',.slice B2 n2 c2,I 0]) h'):aO prog 111 #[Jz p w A (p*w) c,.slice B p c2] h K:=by have d:m<=40000000:=bG (Nat.le_mul_of_pos_left _ (Nat.pow_pos dc)) hm.2.2.1;have g:rvs (fun i=>F3 (b i))=b:=funext fun _=>H2 _;refine A5b gl x.row rb x.nn (by have:=x.r2;omega) (x.len d) (fun i e=>by have:=Yu (sb i e);omega) x.szs (fun i e=>by rw[H2];exact sb i e) hm1 (fun r k mk=>?_) fun o l q s _ A' c' A2 c2 t j f n=>?_;{obtain⟨rfl,rfl⟩:=Kf mk;exact hm};·obtain rfl:=l.eq (.inr (.inr ⟨p,w,x.ok,fun _ _=>⟨_,rfl⟩,rfl,.inl ⟨by rw[V9,g];exact ok,rfl⟩⟩));rw[V9,g]at f;exact hK _ _ _ _ _ _ j f
end
abbrev Sa:=List UInt8×List Int
abbrev tm(ts:List Sa)(j:Nat):Sa:=ts.getD j ([],[])
structure TermOk (vars:Int) (t:Sa):Prop where
 num:∃ q,t.1=F3 q/\q≠0
 len:(t.2.length:Int)=vars
 exps:∀ x∈t.2,0<=x/\x<=1048576
def C3h(vars:Int)(ts:List Sa)(j:Nat):Prop:=TermOk vars (tm ts j)/\(0<j->0<C03 (tm ts (j-1)).2 (tm ts j).2)
structure WfOk (vars:Int) (ts:List Sa):Prop where
 lo:0<=vars
 hi:vars<=6
 all:∀ j,j<ts.length->C3h vars ts j
def B36(vars:Int)(ts:List Sa):Prop:=WfOk vars ts/\(0<ts.length->K0 (tm ts 0).2=true)
def TermOk.exb{vars:Int}{t:Sa}(o:TermOk vars t)(hv:vars<=6):ExB t.2:=⟨by have:=o.len;omega,o.exps⟩
def PolyAt(h:aH)(A:Option aL)(ts:List Sa):Prop:=∀i,i<ts.length->∃a B c,A=some a/\h.cell? (aF (aF a (i*2)) 0)=some (.string (bs (tm ts i).1))/\h.cell? (aF (aF a (i*2)) 1)=some (.slice B (tm ts i).2.length c)/\SlI .i64 h B (tm ts i).2
def PolyAt.mono{h h':aH}{A:Option aL}{ts:List Sa}(p:PolyAt h A ts)(hl:h.le h'):PolyAt h' A ts:=fun i j=>by obtain⟨a,B,c,f,d,g,e⟩:=p i j;exact⟨a,B,c,f,C0 hl d,C0 hl g,e.mono hl⟩
def A93{xs:List Int}(h:∀j,j<xs.length->0<=xs.getD j 0/\xs.getD j 0<=1048576):∀x∈xs,0<=x/\x<=1048576:=fun x d=>by obtain⟨j,c,rfl⟩:=List.getElem_of_mem d;have:=h j c;simpa[bK,c]using this
def Oh{xs:List Int}{j:Nat}(hj:j<xs.length):xs.getD j 0∈xs:=by simp[bK,hj]
abbrev Yq(n:Nat):={l:List aU // l.length=n/\∀v∈l,Pe v=true}
instance cellsEnc (n:Nat):Enc (Yq n):=⟨⟨fun x=>x.1,n,fun x=>x.2.1,fun x=>x.2.2⟩⟩
def Iz{P:cD}{t:bI}{z:aU}{size bytes:Nat}(hi:(P.info? t).map (fun i=>(i.zero,i.size,i.bytes))=some (some z,size,bytes)){K:VP}{h:aH}(x:∀b,h b=none->K (.pointer (some ⟨b,0,none⟩)) (h.put b (.cells z.cells t))):wpH P (Instr.alloc t true (.tuple #[])) K h:=by obtain⟨i,hi,c⟩:=Option.map_eq_some_iff.1 hi;have d:i.zero=some z:=by{simpa using congrArg (fun x=>x.1) c};unfold Instr.alloc;simp only[C9,P8 hi d,newVar,As,I5];exact x
def Xc{P:cD}{t:bI}{n:Nat}(one:P.cellsOf t=n/\(P.info? t).isSome=true){v:aU}{vs:List aU}(hv:v.cells=vs.toArray)(hn:vs.length=n)(h1:∀v∈vs,Pe v=true){g:aH}{b off:Nat}{e:bI}{arr:List aU}(ho:off+n<=arr.length){K:Unit->aH->Prop} (x:K () (g.put b (.cells (I8 arr off vs).toArray e))):wpH P (bD t (.pointer (some (aF ⟨b,0,none⟩ off))) v) K (g.put b (.cells arr.toArray e)):=by obtain⟨f,c⟩:=Option.isSome_iff_exists.1 one.2;have d:f.size=n:=by{simpa[Program.cellsOf,c]using one.1};unfold bD;simp only[C9,Instr.sureAddr,I5,storeVar,K5 c,d,hv,List.size_toArray,hn,ne_eq,not_true_eq_false,if_false];rw[D6,Nat.zero_add];exact H9 vs off 0 _ o h1 (by rw[cR];exact x)
def Ep{h g:aH}{b:Nat}{arr:List aU}{e:bI}(eq:h=g.put b (.cells arr.toArray e)){i:Nat}{v:aU}(hv:arr[i]? = some v):h.cell? (aF ⟨b,0,none⟩ i)=some v:=by subst eq;rw[D6,D8];simpa using hv
def C4x:∀l:List Int,l.length=6->∃a b c d e f,l=[a,b,c,d,e,f]
 | [a,b,c,d,e,f],_=>⟨a,b,c,d,e,f,rfl⟩
abbrev C5r:aU:=.agg #[I (0:Int),I (0:Int),I (0:Int),I (0:Int),I (0:Int),I (0:Int),.bool false,.slice none 0 0,.bool false,.slice none 0 0]
def C2r(a b c d e f:Int)(w:QV):List aU:=[I a,I b,I c,I d,I e,I f,.bool w.s,.slice w.A w.n w.c,.bool w.s2,.slice w.A2 w.n2 w.c2]
section
variable {h:aH} {K:VP} {vars:Int}
def Zj{l:List UInt8}{xs:List Int}{A:Option aL}{c:Nat}(gl:Gtz h)(hl:l.length<=100000000)(se:SlI .i64 h A xs)(hv:vars<=6)(hK1:TermOk vars (l,xs)->∀a b c d e f (w:QV),K (.tuple #[.agg (C2r a b c d e f w).toArray,.bool true]) h)(hK0:¬TermOk vars (l,xs)->K (.tuple #[C5r,.bool false]) h):aO prog 285 #[I vars,.agg #[.string (bs l),.slice A xs.length c]] h K:=by refine FCall.pure ((fnk func285 [(5,[34],[(4,10)],[I 0,I 0,I 0,I 0,I 0,I 0,I 0,.bool false,.slice none 0 0,.bool false,.slice none 0 0])] (own:=[3,4,6])) ?_);have no:∀G,h.le G->¬TermOk vars (l,xs)->h.le G/\K (.tuple #[C5r,.bool false]) h:=fun G l0 n=>⟨l0,hK0 n⟩;refine Pn gl hl (fun q e w D m i=>⟨_,_,_,_,_,_,_,_,_,rfl,?_⟩) (fun n w D m _=>⟨_,_,_,_,_,_,_,_,_,rfl,no D m fun o=>?_⟩);{refine Dn i ⟨_,rfl,C1 (fun F=>no _ m fun o=>?_) (fun F=>?_)⟩;{obtain⟨N,E,n'⟩:=o.num;exact n' (by rw[<- A6a (e.symm.trans E)];exact F)};refine E6 (fun u=>no _ m fun o=>u o.len) (fun z=>?_);refine⟨fun l h'=>∃(k:Nat) (R:List aU),l=I k::R/\k<=xs.length/\(∀j,j<k->0<=xs.getD j 0/\xs.getD j 0<=1048576)/\h'=D,fun l _=>xs.length-(iAt l 0).toNat,⟨0,_,rfl,oo,fun j hj=>oo,rfl⟩,?_⟩;rintro C ad ah aj af ak ae ai H aa L ag O X ac r ⟨k,R,B,hk,p,rfl⟩;obtain rfl:C=(k:Int):=by{simpa using (List.cons.inj B).1};refine C1 (fun h2=>?_) (fun h2=>?_);{have hkl:k<xs.length:=oo;refine(se.mono m).load rfl oo oo ?_;rw[aD];refine C1 (fun h3=>no _ m fun o=>?_) (fun h3=>C1 (fun h4=>no _ m fun o=>?_) (fun h4=>?_));{have:=(o.exps _ (Oh hkl)).1;exact absurd this (by show ¬0<=xs.getD k 0;omega)};{have:=(o.exps _ (Oh hkl)).2;exact absurd this (by show ¬xs.getD k 0<=1048576;omega)};·rw[C2 oo oo];refine⟨⟨k+1,_,rfl,oo,fun j hj=>?_,rfl⟩,by simp only[iAt,aP];omega⟩;by_cases y:j=k;{subst y;omega};·exact p j oo};·have hkl:k=xs.length:=oo;subst hkl;have ok:TermOk vars (l,xs):=⟨⟨q,e,F⟩,z,A93 p⟩;refine Iz Yz.info fun b hb=>⟨_,rfl,?_⟩;refine Xc (n:=4) B0m (vs:=[.bool w.s,.slice w.A w.n w.c,.bool w.s2,.slice w.A2 w.n2 w.c2]) rfl rfl (by simp[Pe]) (off:=6) (arr:=[I (0:Int),I (0:Int),I (0:Int),I (0:Int),I (0:Int),I (0:Int),.bool false,.slice none 0 0,.bool false,.slice none 0 0]) dc ?_;have win:Win .i64 (r.put b (.cells (I8 [I (0:Int),I (0:Int),I (0:Int),I (0:Int),I (0:Int),I (0:Int),.bool false,.slice none 0 0,.bool false,.slice none 0 0] 6 [.bool w.s,.slice w.A w.n w.c,.bool w.s2,.slice w.A2 w.n2 w.c2]).toArray 361)) r b 361 (V3 (some (aF ⟨b,0,none⟩ 0)) 6 0 1) [] [0,0,0,0,0,0] [.bool w.s,.slice w.A w.n w.c,.bool w.s2,.slice w.A2 w.n2 w.c2]:=⟨hb,rfl,.inr rfl⟩;have l2:r.le _:=win.le;have t:xs.length<=6:=oo;refine Em Gf win rfl ((se.mono m).mono l2) rfl (by simpa using t) fun h5 w5=>⟨_,rfl,?_⟩;obtain⟨T,V,W,M,S,Q,e6⟩:=C4x (xs++[0,0,0,0,0,0].drop xs.length) (by simp;omega);have g:=w5.eq;rw[e6]at g;refine⟨T,V,W,M,S,Q,_,_,_,_,_,_,_,_,Ep g rfl,Ep g rfl,Ep g rfl,Ep g rfl,Ep g rfl,Ep g rfl,Ep g rfl,Ep g rfl,Ep g rfl,Ep g rfl,B0 m w5.le,?_⟩;exact hK1 ok T V W M S Q w};·obtain⟨N,E,_⟩:=o.num;exact n ⟨N,E⟩
end
def Hc{h:aH}{b:Nat}{o:Obj}(e:h b=some o):h.put b o=h:=funext fun k=>by unfold Heap.put;split;{rename_i q;subst q;exact e.symm};·rfl
def Xu:∀v:Fin 3,∀d:Fin 4,1<=v.val->1<=nM v d/\nM v d<=10/\(d.val<=2->nM v d<=6):=by decide +kernel
def Nt{v d:Nat}(h1:1<=v)(h2:v<=2)(hd:d<=3):1<=nM v d/\nM v d<=10:=by have:=Xu ⟨v,o⟩ ⟨d,o⟩ h1;exact⟨this.1,this.2.1⟩
def B2s{n m:Nat}(hn:n<=10)(hm:m<=15):3^n*bnd n m<=9802134/\bnd n m<=166:=by have d:n*m<=10*15:=aK hn hm;have c:bnd n m<=166:=by{unfold bnd;omega};exact⟨aK (aY dc hn) c,c⟩
def rkM(V:Nat->Rat)(v d:Nat):Nat:=(ecE (Bu V v d) (nM v d) (nM v d)).cs.length
section
variable {h:aH} {K:VP} {A B T:Option aL} {c cc tc n m v d D:Nat} {V:Nat->Rat}
def Uj(h1:1<=v)(h2:v<=2)(hd3:d<=3)(d6:D<=6)(hD:2*d<=D):A0z (nM v d) (Bu V v d):=fun i k c e=>by unfold Bu;rw[(O2 h1 h2 hd3 d6 hD c e).sym]
def FnV.fm(f:FnV h A v D m V)(hd3:d<=3)(hD:2*d<=D)(r:aM SSr h B (nM v d*nM v d) (R9 (Bu V v d) (nM v d))):FM h B (nM v d) (nM v d) m (Bu V v d):=by have:=Nt f.v1 f.v2 hd3;exact⟨this.1,o,this.1,o,r,fun i j e c=>f.sz _ (O2 f.v1 f.v2 hd3 f.d6 hD e c).lt⟩
def A5d(gl:Gl h)(f:FnV h A v D m V)(hm:m<=15)(hd1:1<=d)(hd3:d<=3)(hD:2*d<=D)(hK:K (.tuple #[I (rkM V v d:Int),.bool ((rkM V v d:Int)==(rkM V v (d-1):Int)),I 0]) h): aO prog 105 #[.agg #[I (v:Int),I (D:Int),.slice A (mo v D).length c],I (d:Int)] h K:=by have S:=f.d6;have M:C4 (Int.tdiv (D:Int) 2)=((D/2:Nat):Int):=by{rw[bO oo,C2 oo oo];omega};refine FCall.pure ((fnk func105 [(7,[23],[],[I 0])] (own:=[2,9])) ?_);refine Dr gl f ⟨_,rfl,Br.nt (C1 (fun e=>oo) (fun _=>?_))⟩;rw[M];refine C1 (fun e=>oo) (fun _=>?_);refine Iz (z:=.agg #[I 0,I 0]) (size:=2) (bytes:=16) (by kernel_rfl) fun b r=>⟨_,rfl,?_⟩;refine⟨fun L g=>∃(i:Nat) (x y:Int) (e:bI),i<=2/\L=[I (i:Int)]/\h.le g/\g b=some (.cells #[I x,I y] e)/\(1<=i->x=rkM V v d)/\(2<=i->y=rkM V v (d-1)),fun L _=>2-(iAt L 0).toNat,⟨0,0,0,_,oo,rfl,Heap.le_put _ r,C3 _ _ _,fun e=>oo,fun e=>oo⟩,?_⟩;rintro z g ⟨i,x,y,T,W,N,j,n,w,Q⟩;obtain rfl:=sI1 N;refine C1 (fun C=>?_) (fun B=>?_);{rw[show C4 ((d:Int)-(i:Int))=((d-i:Nat):Int) by rw[C2]<;>omega];have s:=f.mono j;refine Gx (d:=d-i) (gl.mono j) s oo oo fun A1 c1 H l E=>⟨_,_,_,_,_,_,rfl,E6 (fun e=>absurd rfl e) (fun _=>?_)⟩;have F:=Nt f.v1 f.v2 (show d-i<=3 from oo);have R:=B2s F.2 hm;refine Uf (m:=m) (gl.mono (B0 j l)) ((s.mono l).fm oo oo E) (by rw[cC 2];omega) oo ⟨_,_,rfl,⟨oo,oo⟩,?_⟩;have p:=l _ _ n;rw[<- Hc p];refine Nd ⟨by kernel_rfl,by kernel_rfl⟩ (by simp;omega) ?_;refine E6 (fun e=>absurd rfl e) (fun _=>?_);rw[wiS i oo,aD];have t:∀o,h.le (H.put b o):=fun o k u e=>by{have G:k≠b:=fun q=>by{rw[q,r]at e;cases e};rw[B9 _ _ G];exact l _ _ (j _ _ e)};refine⟨?_,by simp only[O8];omega⟩;rcases(show i=0\/i=1 from oo)with rfl|rfl;{exact⟨1,_,y,_,oo,rfl,t _,by rw[C3];rfl,fun _=>rfl,fun e=>oo⟩};·exact⟨2,x,_,_,oo,rfl,t _,by rw[C3];rfl,fun _=>w oo,fun _=>rfl⟩};·obtain rfl:i=2:=oo;have g0:g.cell? (aF ⟨b,0,none⟩ ((0:Int).toNat*1))=some (I x):=by{rw[D6];unfold Heap.cell?;rw[n];rfl};have O:g.cell? (aF ⟨b,0,none⟩ ((1:Int).toNat*1))=some (I y):=by{rw[D6];unfold Heap.cell?;rw[n];rfl};refine⟨dc,_,g0,dc,_,g0,dc,_,O,j,?_⟩;rw[w oo,Q oo];exact hK
def Uk(gl:Gl h)(f:FnV h A v D m V)(hm:m<=15)(hd3:d<=3)(hD:2*d<=D)(hK1:(∀k,k<nM v d->Jv (mtx (fl (Bu V v d) (nM v d)) (nM v d)) (nM v d) k)->K (.tuple #[.bool true,I 0]) h)(hK0:(¬∀k,k<nM v d->Jv (mtx (fl (Bu V v d) (nM v d)) (nM v d)) (nM v d) k)->K (.tuple #[.bool false,I 0]) h): aO prog 106 #[.agg #[I (v:Int),I (D:Int),.slice A (mo v D).length c],I (d:Int)] h K:=by refine FCall.pure ((fnk func106 (own:=[2,6,8])) ?_);refine Gx gl f hd3 hD fun A1 c1 F g t=>⟨_,_,_,_,_,_,rfl,E6 (fun e=>absurd rfl e) (fun _=>?_)⟩;have y:=Nt f.v1 f.v2 hd3;have G:=B2s y.2 hm;have x:=(f.mono g).fm hd3 hD t;have sq:SqOk (nM v d) (nM v d) (nM v d*nM v d) (R9 (Bu V v d) (nM v d)) (nM v d):=⟨x.ok,fun i j n C=>by obtain⟨p,w⟩:=dm1 (i:=i) (show j<nM v d from oo);obtain⟨r,u⟩:=dm1 (i:=j) n;unfold R9;rw[p,w,r,u,Uj f.v1 f.v2 hd3 f.d6 hD i j n oo]⟩;refine A9c (m:=m) (Q:=20000000) (gl.mono g) x.row x.nn (x.len oo) x.szs (fun q mk=>?_) (aC _) fun o l A2 B2 c2 c3 E s z B=>⟨_,_,_,_,_,_,_,_,_,_,rfl,B0 g s,?_⟩;{obtain⟨rfl,_⟩:=Kf mk;omega};·by_cases ok:∀k,k<nM v d->Jv (mtx (rvs (R9 (Bu V v d) (nM v d))) (nM v d)) (nM v d) k;{obtain rfl:=l.eq (.inr ⟨_,sq,.inl ⟨ok,rfl⟩⟩);rw[V9]at ok;exact hK1 ok};·obtain rfl:=l.eq (.inr ⟨_,sq,.inr ⟨ok,rfl⟩⟩);rw[V9]at ok;exact hK0 ok
end
def MIr:aH->HV->List Int->Prop:=fun h w c=>w.n=c.length/\SlI .i64 h w.A c/\c.length<=6
def Wl:Mon MIr:=fun _ _ _ _ l i=>⟨i.1,i.2.1.mono l,i.2.2⟩
def pvL(V:Nat->Rat)(v d:Nat):List Nat:=(ecE (Bu V v d) (nM v d) (nM v d)).cs
def bdr(V:Nat->Rat)(v d:Nat)(i:Nat):List Int:=mon v d ((pvL V v d).getD i 0)
def sqM(V:Nat->Rat)(v d:Nat):Nat->Nat->Rat:=fun i j=>Bu V v d ((pvL V v d).getD i 0) ((pvL V v d).getD j 0)
def ivM(V:Nat->Rat)(v d:Nat):Nat->Nat->Rat:=Qe (fl (sqM V v d) (rkM V v d)) (rkM V v d)
def Y8(V:Nat->Rat)(v d:Nat){i:Nat}(hi:i<rkM V v d):(pvL V v d).getD i 0<nM v d:=(EqA.run (n:=nM v d) (w:=nM v d) (Bu V v d) (nM v d) (aC _)).lt _ (O0 hi)
def Tn(V:Nat->Rat)(v d:Nat):rkM V v d<=nM v d:=(Q6 (Bu V v d) (nM v d) (nM v d)).2
section
variable {h:aH} {K:VP} {A B T:Option aL} {c cc tc n m v d D:Nat} {V:Nat->Rat}
def RowV.mi{f:Nat->List Int}(r:aM MIr h A n f){i:Nat}(hi:i<n):∃a B bc,A=some a/\h.cell? (aF a (i*1))=some (.slice B (f i).length bc)/\SlI .i64 h B (f i):=by obtain⟨a,w,e,⟨d,g,_⟩,c⟩:=r.at dc hi;have:=c 0 _ rfl;rw[Fu,d]at this;exact⟨a,_,_,e,this,g⟩
def Tf(h1:1<=v)(h2:v<=2)(hd3:d<=3)(d6:D<=6)(hD:2*d<=D):Ib (fl (sqM V v d) (rkM V v d)) (rkM V v d):=B14 (Uj h1 h2 hd3 d6 hD)
def Dv(gl:Gl h)(f:FnV h A v D m V)(hm1:1<=m)(hm:m<=15)(hd2:d<=2)(hD:2*d<=D)(hr:1<=rkM V v d) (hK:∀BA bc IA ic h',h.le h'->aM MIr h' BA (rkM V v d) (bdr V v d)->aM SSr h' IA (rkM V v d*rkM V v d) (R9 (ivM V v d) (rkM V v d))->K (.tuple #[.agg #[I (v:Int),I (D:Int),.slice A (mo v D).length c,.slice BA (rkM V v d) bc,I (rkM V v d:Int),I (rkM V v d:Int),.slice IA (rkM V v d*rkM V v d) ic],I 0]) h'): aO prog 107 #[.agg #[I (v:Int),I (D:Int),.slice A (mo v D).length c],I ((d+1:Nat):Int)] h K:=by have d6:=f.d6;have nb:=Nt f.v1 f.v2 (show d<=3 from o);have p:=(Xu ⟨v,by have:=f.v2;omega⟩ ⟨d,o⟩ f.v1).2.2 hd2;change nM v d<=6 at p;have bb:=B2s nb.2 hm;have ah:=Tn V v d;refine(fnk func107 [(13,[59],[(11,7),(12,3)],[I 0,I 0,I 0,.slice none 0 0,.slice none 0 0,I 0,I 0,.slice none 0 0,I 0,I 0,.slice none 0 0]),(17,[74],[(12,3)],[I 0,I 0,I 0,.slice none 0 0])] (own:=[2,4,6,8,11,12]) (wr:=[1000000000])) ?_;rw[show C4 (((d+1:Nat):Int)-1)=(d:Int) by rw[C2]<;>omega];refine Gx gl f o hD fun A1 c1 h1 O r1=>⟨_,_,_,_,_,_,rfl,E6 (fun e=>absurd rfl e) (fun _=>?_)⟩;have x:=(f.mono O).fm o hD r1;refine Zr (m:=m) (gl.mono O) x (by rw[cC 2];omega) o fun b A2 c2 h2 l2 sz=>⟨_,_,_,_,_,_,_,_,_,rfl,E6 (fun e=>absurd rfl e) (fun _=>?_)⟩;refine Jr f.v1 f.v2 o fun A3 c3 M H s3=>⟨_,_,_,_,rfl,E6 (fun e=>absurd rfl e) (fun _=>?_)⟩;have aa:=sz.mono H;have r3:=r1.mono E9 (B0 l2 H);have Q:=gl.mono (B0 O (B0 l2 H));have hz:∀i,i<rkM V v d->∃a,A2=some a/\M.cell? (aF a (i*1))=some (I ((pvL V v d).getD i 0:Int)):=fun i N=>by{have hl:(zs (pvL V v d)).length=rkM V v d:=by{unfold zs;rw[List.length_map];rfl};obtain⟨a,e,q⟩:=aa.iat (i:=i) (by show i<(zs (pvL V v d)).length;omega);have R:i<(pvL V v d).length:=N;have e0:(pvL V v d).getD i 0=(pvL V v d)[i]:=by{simp[bK,R]};exact⟨a,e,by rw[q,e0];simp;rfl⟩};change SlF h2 A2 (zs (pvL V v d))at sz;generalize hF:R9 (sqM V v d) (rkM V v d)=F;have t:∀i k,k<rkM V v d->F (i*rkM V v d+k)=F3 (sqM V v d i k):=fun i k hk=>by{obtain⟨u,C⟩:=dm1 (i:=i) hk;rw[<- hF];unfold R9;rw[u,C]};refine⟨fun L G=>∃(i:Nat) (BA:Option aL) (bc:Nat) (SA:Option aL) (s:Nat),i<=rkM V v d/\L=[I (i:Int),I (v:Int),I (D:Int),.slice A (mo v D).length c,.slice BA i bc,I 0,I 0,.slice none 0 0,I (rkM V v d:Int),I (rkM V v d:Int),.slice SA (i*rkM V v d) s]/\Lst2 MIr 22 SSr 9 M G BA bc i (bdr V v d) SA s (i*rkM V v d) F,fun L _=>rkM V v d-(iAt L 0).toNat,⟨0,none,0,none,0,o,by rw[bC];rfl,by rw[bC];exact Lst2.nil⟩,?_⟩;rintro z q0 q1 qA qn qc pA i pc q4 q5 uA un uc s0 s1 sA sn s G ⟨i0,BA,bc,SA,S,N,E,L⟩;simp only[aG,aJ,aI,true_and,and_true]at E;obtain⟨rfl,rfl,rfl,⟨rfl,rfl,rfl⟩,⟨rfl,rfl,rfl⟩,rfl,rfl,⟨rfl,rfl,rfl⟩,rfl,rfl,rfl,rfl,rfl⟩:=E;refine C1 (fun aj=>?_) (fun am=>?_);{have r:i<rkM V v d:=by{unfold rkM;omega};have T:(i+1)*rkM V v d=i*rkM V v d+rkM V v d:=by{rw[bV,bU]};have ai:(i+1)*rkM V v d<=rkM V v d*rkM V v d:=aE _ r;have ao:rkM V v d*rkM V v d<=6*6:=aK o o;have g:=Y8 V v d r;obtain⟨a,e,c0⟩:=hz i r;obtain⟨u,B,W,e1,ac,s1⟩:=s3.mon g;refine⟨a,e,o,o,_,C0 L.le c0,u,e1,o,by unfold nM at g;omega,_,_,_,by rw[aD];exact C0 L.le ac,?_⟩;refine L.pushG Wl E9 Sy rfl (y:=(⟨B,(mon v d ((pvL V v d).getD i 0)).length,W⟩:HV)) (by rfl) ⟨rfl,s1,?_⟩ dc o fun BA2 ae h5 L5=>?_;{have:=((O9 f.v1 f.v2 (show d<=6 from o)).val _ g).2.1;have:=f.v2;unfold bdr;omega};refine⟨fun L G=>∃(k:Nat) (SA:Option aL) (s:Nat),k<=rkM V v d/\L=[I (k:Int),I (rkM V v d:Int),I (rkM V v d:Int),.slice SA (i*rkM V v d+k) s]/\Lst2 MIr 22 SSr 9 M G BA2 ae (i+1) (bdr V v d) SA s (i*rkM V v d+k) F,fun L _=>rkM V v d-(iAt L 0).toNat,⟨0,_,_,o,rfl,L5⟩,?_⟩;rintro z s0 ak tA tn an al ⟨k,SA,S,hk,E,L6⟩;simp only[aG,aJ,aI,true_and,and_true]at E;obtain⟨rfl,rfl,rfl,rfl,rfl,rfl⟩:=E;refine C1 (fun ag=>?_) (fun af=>?_);{have l:k<rkM V v d:=by{unfold rkM at *;omega};have w:=Y8 V v d l;have hq:=R8 g w;obtain⟨C,e2,X⟩:=hz k l;obtain⟨a3,e3,ad⟩:=r3.sat hq;have ap:nM v d*nM v d<=6*6:=aK p p;have ew:C4 (C4 (((pvL V v d).getD i 0:Int)*(nM v d:Int))+((pvL V v d).getD k 0:Int))=(((pvL V v d).getD i 0*nM v d+(pvL V v d).getD k 0:Nat):Int):=by{rw[<- Int.natCast_mul,O1 o];exact O1 (n:=(pvL V v d).getD i 0*nM v d+(pvL V v d).getD k 0) o};refine⟨C,e2,o,o,_,C0 L6.le X,?_⟩;dsimp only;rw[ew];refine⟨a3,e3,o,o,_,C0 L6.le ad,?_⟩;refine L6.swap.pushG E9 Wl I6 rfl (y:=R9 (Bu V v d) (nM v d) ((pvL V v d).getD i 0*nM v d+(pvL V v d).getD k 0)) (by rfl) ?_ dc o fun A5 c5 h5 L7=>?_;{rw[t i k l];obtain⟨u,C⟩:=dm1 (i:=(pvL V v d).getD i 0) w;show R9 _ _ _=_;unfold R9;rw[u,C];rfl};rw[wiS k o];exact⟨⟨k+1,_,_,o,rfl,L7.swap⟩,by simp only[O8];omega⟩};·obtain rfl:k=rkM V v d:=by{unfold rkM at *;omega};rw[wiS i o];rw[<- T]at L6 ⊢;exact⟨⟨i+1,_,_,_,_,o,rfl,L6⟩,by simp only[O8];omega⟩};·obtain rfl:i=rkM V v d:=by{unfold rkM at *;omega};have y:FM G sA (rkM V v d) (rkM V v d) m (sqM V v d):=⟨hr,o,hr,o,by rw[hF];exact L.swap.row E9,fun i j N hj=>x.sz _ _ (Y8 V v d N) (Y8 V v d hj)⟩;have g3:=L.le;refine Wn (m:=m) (Q.mono g3) y (Tf f.v1 f.v2 o d6 hD) hm1 ?_ o fun A6 c6 h6 l6 r6=>⟨_,_,_,_,_,_,rfl,hK _ _ _ _ _ (B0 O (B0 l2 (B0 H (B0 g3 l6)))) ((L.row Wl).mono Wl l6) r6⟩;have h1:(rkM V v d+rkM V v d)*m<=12*15:=aK o hm;have h2:3^rkM V v d<=3^6:=aY dc o;have M:3^rkM V v d*bnd (rkM V v d+rkM V v d) m<=729*196:=aK h2 (by unfold bnd;omega);omega
end
section
variable {α β:Type} [E:Enc α] {R:aH->α->β->Prop}
def OwnK.fill(m:Mon R){P:cD}{t:bI}(one:P.cellsOf t=E.default.size/\(P.info? t).isSome=true){h h':aH}{b n k:Nat}{f:Nat->β}(w:OwnK R h h' b n k f)(hk:k<n){v:aU}{y:α}(hv:v.cells=(enc y).toArray)(hy:R h y (f k)){K:Unit->aH->Prop} (x:∀h2,OwnK R h h2 b n (k+1) f->K () h2):wpH P (bD t (.pointer (some (aF ⟨b,0,none⟩ (k*E.default.size)))) v) K h':=by obtain⟨g,o,j,c,s,e,i,d⟩:=w;exact OwnK.store m one c (B7 _) s e i d hk hv (m _ _ _ _ c hy) x
end
def t0:({data:=#[48] }:ByteArray)=bs (F3 0):=by rw[A1e];rfl
def t1:({data:=#[49] }:ByteArray)=bs (F3 1):=by decide +kernel
def zq:aU:=.agg #[I 0,I 0,.slice none 0 0,.slice none 0 0,I 0,I 0,.slice none 0 0]
section
variable {h:aH} {K:VP} {A B T FA:Option aL} {c cc tc fc n m m2 v d D:Nat} {V F:Nat->Rat}
def Kl(hv:v<=6){l1:Int}{l2n l2c:Nat}(hK:∀b h',Own SSr h h' b v (fun _=>F3 0)->K (.slice (some ⟨b,0,none⟩) v v) h'):aO prog 60 #[.agg #[I (v:Int),I l1,.slice A l2n l2c]] h K:=by refine(fnk func60 [(3,[12],[],[I 0])] (own:=[1])) ?_;rw[iN (show ¬(0:Int)>(v:Int)from o),iN (show ¬(6:Int)<(v:Int)from o)];refine I3 I6 (zx:=([]:List UInt8)) rfl o o o o ?_;intro b f;refine⟨_,_,_,rfl,fun L d=>∃k:Nat,k<=v/\L=[I k]/\OwnK SSr h d b v k (fun _=>F3 0),fun L _=>v-(iAt L 0).toNat,⟨0,o,rfl,OwnK.zero f⟩,?_⟩;rintro t d ⟨k,j,i,w⟩;obtain rfl:=sI1 i;refine C1 (fun e=>?_) (fun c=>?_);{refine⟨_,rfl,o,by simpa using e,?_⟩;refine w.fill E9 N5 (y:=F3 0) o (by rw[t0];rfl) rfl fun l g=>?_;rw[wiS k o];exact⟨⟨k+1,o,rfl,g⟩,by simp only[O8];omega⟩};·obtain rfl:k=v:=by{simp at c;omega};exact hK b d w.own
def psd(V:Nat->Rat)(v d:Nat):Prop:=∀k,k<nM v d->Jv (mtx (fl (Bu V v d) (nM v d)) (nM v d)) (nM v d) k
def Ej{var:Int}{pos:Bool}(gl:Gl h)(f:FnV h A v D m V)(hm1:1<=m)(hm:m<=15)(hd3:d<=3)(fr:aM SSr h FA v (fun i=>F3 (F i)))(sF:∀i,i<v->Sz m2 (F i))(hm2:m2<=1000000) (h3:d<1\/D<2*d\/(v:Int)<=var->K (.tuple #[zq,I 3]) h) (h11:1<=d->2*d<=D->var<v->¬(rkM V v d=rkM V v (d-1)/\1<=rkM V v d/\(pos=true->psd V v d))->K (.tuple #[zq,I 11]) h) (hK:∀d',d=d'+1->2*d<=D->var<v->rkM V v d=rkM V v d'->1<=rkM V v d'->(pos=true->psd V v d)->∀BA bc IA ic h',h.le h'->aM MIr h' BA (rkM V v d') (bdr V v d')->aM SSr h' IA (rkM V v d'*rkM V v d') (R9 (ivM V v d') (rkM V v d'))->K (.tuple #[.agg #[I (v:Int),I (D:Int),.slice A (mo v D).length c,.slice BA (rkM V v d') bc,I (rkM V v d':Int),I (rkM V v d':Int),.slice IA (rkM V v d'*rkM V v d') ic],I 0]) h'): aO prog 59 #[.agg #[I (v:Int),I (D:Int),.slice A (mo v D).length c],I (d:Int),I var,.slice FA v fc,.bool pos] h K:=by have Q:=f.v1;have v2:=f.v2;have S:=f.d6;have B:C4 (Int.tdiv (D:Int) 2)=((D/2:Nat):Int):=by{rw[bO o,C2 o o];omega};refine(fnk func59 [(4,[25],[(10,7)],[I 0,I 0,I 0,.slice none 0 0,.slice none 0 0,I 0,I 0,.slice none 0 0])] (own:=[5,10])) ?_;refine Dr gl f ⟨_,rfl,Br.nt ?_⟩;refine⟨fun L t=>∃k:Nat,k<=v/\L=[I (k:Int),I 0,I 0,.slice none 0 0,.slice none 0 0,I 0,I 0,.slice none 0 0]/\t=h,fun L _=>v-(iAt L 0).toNat,⟨0,o,rfl,rfl⟩,?_⟩;rintro z a0 a1 aA an O G H bc W T R X C t ⟨k,N,q,rfl⟩;simp only[aG,aJ,aI,true_and,and_true]at q;obtain⟨rfl,rfl,rfl,⟨rfl,rfl,rfl⟩,⟨rfl,rfl,rfl⟩,rfl,rfl,rfl,rfl,rfl⟩:=q;refine C1 (fun y=>?_) (fun w=>?_);{have j:k<v:=o;obtain⟨a,e,c0⟩:=fr.sat j;refine⟨a,e,o,o,_,by rw[aD];exact c0,?_⟩;refine Pj gl (Tx.of (sF k j) o).len (fun _=>⟨_,rfl,Br.nt ?_⟩) (fun no=>absurd ⟨F k,rfl⟩ no);rw[wiS k o];exact⟨⟨k+1,o,rfl,rfl⟩,by simp only[O8];omega⟩};·rw[B];refine C1 (fun e=>h3 o) (fun n1=>C1 (fun e=>h3 o) (fun n2=>C1 (fun e=>h3 o) (fun E=>E6 (fun e=>absurd rfl e) (fun _=>?_))));obtain⟨d',rfl⟩:∃d',d=d'+1:=⟨d-1,o⟩;have g:2*(d'+1)<=D:=o;refine A5d gl f hm o hd3 g ⟨_,_,_,rfl,E6 (fun e=>absurd rfl e) (fun _=>?_)⟩;refine Br.not (D5 (fun p=>?_) (fun p=>h11 o g o fun x=>p (by rw[x.1])));have u:rkM V v (d'+1)=rkM V v d':=by{simpa using Int.ofNat.inj p};refine C1 (fun e=>h11 o g o fun x=>o) (fun M=>?_);refine Br.of (fun n=>?_) (fun n=>?_);{refine Uk gl f hm hd3 g (fun ok=>⟨_,_,rfl,E6 (fun e=>absurd rfl e) (fun _=>Br.nt ?_)⟩) (fun no=>⟨_,_,rfl,E6 (fun e=>absurd rfl e) (fun _=>Wz (h11 o g o fun x=>no (x.2.2 n)))⟩);exact Dv gl f hm1 hm o o o fun BA bc IA ic h' l r s=>⟨_,_,_,_,_,_,_,_,_,_,_,_,_,_,rfl,hK d' rfl g o u o (fun _=>ok) BA bc IA ic h' l r s⟩};·exact Dv gl f hm1 hm o o o fun BA bc IA ic h' l r s=>⟨_,_,_,_,_,_,_,_,_,_,_,_,_,_,rfl,hK d' rfl g o u o (fun x=>by rw[n]at x;cases x) BA bc IA ic h' l r s⟩
end
def Zs(a b:List Int):List Int:=opL (fun x y=>x+y) a b
def mpx(a b:List Int)(j:Nat):List Int:=(Zs a b).set j ((Zs a b).getD j 0+1)
def mi3(a b:List Int)(j:Nat):Nat:=(B1w (mpx a b j)).toNat
def C2b(v d D:Nat):Bool:=(bL (mo v d).length).all fun i=>(bL (mo v d).length).all fun k=>(bL v).all fun j=>decide ((Zs (mon v d i) (mon v d k)).length=v)&&decide (mpx (mon v d i) (mon v d k) j=mon v D (mi3 (mon v d i) (mon v d k) j))&&decide (mi3 (mon v d i) (mon v d k) j<(mo v D).length)&&decide (mi3 (mon v d i) (mon v d k) j=mi3 (mon v d k) (mon v d i) j)&&decide ((Zs (mon v d i) (mon v d k)).getD j 0<=100/\0<=(Zs (mon v d i) (mon v d k)).getD j 0)
def B1k:∀v:Fin 3,∀d:Fin 3,∀D:Fin 7,1<=v.val->2*d.val+1<=D.val->C2b v d D=true:=by decide +kernel
structure Mu3 (v d D i k j:Nat):Prop where
 len:(Zs (mon v d i) (mon v d k)).length=v
 eq:mpx (mon v d i) (mon v d k) j=mon v D (mi3 (mon v d i) (mon v d k) j)
 lt:mi3 (mon v d i) (mon v d k) j<(mo v D).length
 sym:mi3 (mon v d i) (mon v d k) j=mi3 (mon v d k) (mon v d i) j
 b:(Zs (mon v d i) (mon v d k)).getD j 0<=100/\0<=(Zs (mon v d i) (mon v d k)).getD j 0
def mu3{v d D i k j:Nat}(h1:1<=v)(h2:v<=2)(hd:d<=2)(hD:D<=6)(hdD:2*d+1<=D)(hi:i<nM v d)(hk:k<nM v d)(hj:j<v):Mu3 v d D i k j:=by have:=B1k ⟨v,o⟩ ⟨d,o⟩ ⟨D,o⟩ h1 hdD;simp only[C2b,Bool.and_eq_true,decide_eq_true_eq,bW,List.mem_range]at this;obtain⟨⟨⟨⟨a,b⟩,c⟩,d⟩,e⟩:=this i hi k hk j hj;exact⟨a,b,c,d,e⟩
def B9y(V F:Nat->Rat)(v d n i k:Nat):Rat:=sm n fun j=>F j*V (mi3 (bdr V v d i) (bdr V v d k) j)
def Wb(V F:Nat->Rat)(v d:Nat):Nat->Nat->Rat:=fun i k=>B9y V F v d v i k
def fmM(V F:Nat->Rat)(v d:Nat):Nat->Nat->Rat:=Dh (rkM V v d) (ivM V v d) (Wb V F v d)
structure Quo (h:aH) (A BA IA:Option aL) (v D m d:Nat) (V:Nat->Rat):Prop where
 fn:FnV h A v D m V
 d2:d<=2
 dD:2*d+2<=D
 r1:1<=rkM V v d
 m1:1<=m
 m15:m<=15
 bd:aM MIr h BA (rkM V v d) (bdr V v d)
 iv:aM SSr h IA (rkM V v d*rkM V v d) (R9 (ivM V v d) (rkM V v d))
def Quo.mono{h h':aH}{A BA IA:Option aL}{v D m d:Nat}{V:Nat->Rat}(l:h.le h')(q:Quo h A BA IA v D m d V):Quo h' A BA IA v D m d V:=⟨q.fn.mono l,q.d2,q.dD,q.r1,q.m1,q.m15,q.bd.mono Wl l,q.iv.mono E9 l⟩
def Quo.r6{h:aH}{A BA IA:Option aL}{v D m d:Nat}{V:Nat->Rat}(q:Quo h A BA IA v D m d V):rkM V v d<=6:=by have c:=(Xu ⟨v,by have:=q.fn.v2;omega⟩ ⟨d,by have:=q.d2;omega⟩ q.fn.v1).2.2 q.d2;have e:=Tn V v d;change nM v d<=6 at c;omega
abbrev B9z(A BA IA:Option aL)(c bc ic v D r:Nat):aU:=.agg #[I (v:Int),I (D:Int),.slice A (mo v D).length c,.slice BA r bc,I (r:Int),I (r:Int),.slice IA (r*r) ic]
section
variable {h:aH} {K:VP} {A BA IA FA:Option aL} {c bc ic fc m mf mq v d D:Nat} {V F:Nat->Rat}
def Fl(gl:Gl h)(q:Quo h A BA IA v D m d V)(fr:aM SSr h FA v (fun i=>F3 (F i)))(sF:∀i,i<v->Sz mf (F i))(hmf:15<=mf/\mf<=1000000) (hs:∀i k,i<rkM V v d->k<rkM V v d->Sz mq (ivM V v d i k)/\Sz mq (Wb V F v d i k)) (hq1:1<=mq) (hq:mq<=1000000) (hK:∀A' c' h',h.le h'->aM SSr h' A' (rkM V v d*rkM V v d) (R9 (fmM V F v d) (rkM V v d))->K (.tuple #[Jz (rkM V v d) (rkM V v d) A' (rkM V v d*rkM V v d) c',I 0]) h'): aO prog 123 #[B9z A BA IA c bc ic v D (rkM V v d),.slice FA v fc] h K:=by have v1:=q.fn.v1;have v2:=q.fn.v2;have d6:=q.fn.d6;have d2:=q.d2;have dD:=q.dD;have r1:=q.r1;have r6:=q.r6;have a0:rkM V v d*rkM V v d<=6*6:=aK r6 r6;refine(fnk func123 [(6,[44],[(8,3)],[I 0,I 0,I 0,.slice none 0 0]),(9,[51],[(8,3)],[I 0,I 0,I 0,.slice none 0 0]),(14,[15,63],[],[.string ⟨#[]⟩,I 0])] (own:=[2,4,8])) ?_;refine Jr v1 v2 d6 fun A1 c1 h1 l1 s1=>⟨_,_,_,_,rfl,E6 (fun e=>absurd rfl e) (fun _=>?_)⟩;have q1:=q.mono l1;have f1:=q1.fn;have fr1:=fr.mono E9 l1;have Q:=gl.mono l1;generalize hG:R9 (Wb V F v d) (rkM V v d)=G;have aa:∀i k,k<rkM V v d->G (i*rkM V v d+k)=F3 (Wb V F v d i k):=fun i k hk=>by{obtain⟨a1,a2⟩:=dm1 (i:=i) hk;rw[<- hG];unfold R9;rw[a1,a2]};refine⟨fun L s=>∃(i:Nat) (A':Option aL) (c':Nat),i<=rkM V v d/\L=[I (i:Int),I (rkM V v d:Int),I (rkM V v d:Int),.slice A' (i*rkM V v d) c']/\Lst SSr 9 h1 s A' c' (i*rkM V v d) G,fun L _=>rkM V v d-(iAt L 0).toNat,⟨0,none,0,oo,by rw[bC];rfl,by rw[bC];exact Lst.nil⟩,?_⟩;rintro z m0 m1 mA mn mc s ⟨i,A',c',hi,M,L⟩;simp only[aG,aJ,aI,true_and,and_true]at M;obtain⟨rfl,rfl,rfl,rfl,rfl,rfl⟩:=M;refine C1 (fun au=>?_) (fun az=>?_);{have S:i<rkM V v d:=oo;have af:(i+1)*rkM V v d=i*rkM V v d+rkM V v d:=by{rw[bV,bU]};have ar:(i+1)*rkM V v d<=rkM V v d*rkM V v d:=aE _ S;obtain⟨a,B,b2,e,c0,s0⟩:=q1.bd.mi S;refine⟨_,e,oo,oo,_,_,_,by rw[aD];exact C0 L.le c0,?_⟩;refine⟨fun L s=>∃(k:Nat) (A':Option aL) (c':Nat),k<=rkM V v d/\L=[I (k:Int),I (rkM V v d:Int),I (rkM V v d:Int),.slice A' (i*rkM V v d+k) c']/\Lst SSr 9 h1 s A' c' (i*rkM V v d+k) G,fun L _=>rkM V v d-(iAt L 0).toNat,⟨0,mA,mc,oo,rfl,L⟩,?_⟩;rintro z m0 m1 av aw a6 ay ⟨k,A2,c2,hk,M,L2⟩;simp only[aG,aJ,aI,true_and,and_true]at M;obtain⟨rfl,rfl,rfl,rfl,rfl,rfl⟩:=M;refine C1 (fun aq=>?_) (fun ap=>?_);{have N:k<rkM V v d:=oo;obtain⟨a3,B3,a7,e3,c3,am⟩:=q1.bd.mi N;refine⟨_,e3,oo,oo,_,_,_,by rw[aD];exact C0 L2.le c3,?_⟩;have X:=Y8 V v d S;have ac:=Y8 V v d N;have qq:=O2 v1 v2 (show d<=3 from oo) d6 (show 2*d<=D from oo) X ac;refine L2.call E9 fun g lg=>Ui (s0.mono lg) (am.mono lg) (fun no=>by have:=qq.pair;unfold bdr at no;rw[no]at this;cases this) fun _ f O=>⟨Heap.le_put _ O,fun E _ L3=>⟨_,_,_,_,rfl,?_⟩⟩;have L4:=L3.weak (B0 lg (Heap.le_put _ O));have m3:∀j,j<v->Mu3 v d D ((pvL V v d).getD i 0) ((pvL V v d).getD k 0) j:=fun j r=>mu3 v1 v2 d2 d6 oo X ac r;have C:=(m3 0 oo).len;have T:bdr V v d i=mon v d ((pvL V v d).getD i 0):=rfl;have ad:bdr V v d k=mon v d ((pvL V v d).getD k 0):=rfl;rw[<- T,<- ad]at C;change ∀j,j<v->_ at m3;generalize hP:opL (fun x y=>x+y) (bdr V v d i) (bdr V v d k)=P0 at *;have R:Zs (bdr V v d i) (bdr V v d k)=P0:=hP;rw[R]at C;have hx:E f=some (.cells (P0.map I).toArray 3):=L3.le _ _ (C3 _ _ _);have eh:E=blk .i64 3 (fun x=>if x=f then none else E x) f P0:=funext fun x=>by{unfold blk Heap.put;by_cases l:x=f;{rw[iP l,l];exact hx};·rw[iN l];show E x=if x=f then none else E x;rw[iN l]};generalize hH:(fun x=>if x=f then none else E x:aH)=H at eh;have ak:H f=none:=by{rw[<- hH];exact iP rfl};have aj:g.le H:=fun x o ho=>by{have l:x≠f:=fun q=>by{rw[q,O]at ho;cases ho};rw[<- hH];show(if x=f then none else E x)=_;rw[iN l];exact L3.le _ _ (by rw[B9 _ _ l];exact ho)};have lH:=B0 lg aj;have lB:∀zs,h1.le (blk .i64 3 H f zs):=fun zs=>B0 lH (Dd ak zs);have ae:∀n,n<=v->Sz (5*mf) (B9y V F v d n i k):=fun n hn=>(Gk (w:=v) (m:=mf) (f2:=fun j=>V (mi3 (bdr V v d i) (bdr V v d k) j)) (fun j r=>sF j r) (fun j r=>(f1.sz _ (m3 j r).lt).mono (by have:=q.m15;omega)) n hn).mono (by have:n*(2*mf+1)<=2*(2*mf+1):=aE _ oo;omega);refine⟨fun L s=>∃(j:Nat),j<=v/\L=[.string (bs (F3 (B9y V F v d j i k))),I (j:Int)]/\s=E,fun L _=>v-(iAt L 1).toNat,⟨0,oo,by rw[t0];rfl,rfl⟩,?_⟩;rintro sum z s ⟨j,r,M,rfl⟩;simp only[aG,aJ,Value.string.injEq,true_and,and_true]at M;obtain⟨rfl,rfl⟩:=M;have next:C4 ((j:Int)+1)=((j+1:Nat):Int)\/v<=j:=by{by_cases p:v<=j;{exact .inr p};·left;rw[C2]<;>omega};refine C1 (fun ao=>?_) (fun an=>?_);{have p:j<v:=oo;have next:C4 ((j:Int)+1)=((j+1:Nat):Int):=next.resolve_right oo;obtain⟨a4,e4,c4⟩:=(fr1.mono E9 L4.le).sat p;refine⟨_,e4,oo,oo,_,by rw[aD];exact c4,?_⟩;dsimp only;rw[eq0];refine C1 (fun hz=>?_) (fun hz=>?_);{have:B9y V F v d (j+1) i k=B9y V F v d j i k:=by{show B9y V F v d j i k+F j*_=_;rw[hz,aV,cQ]};rw[next];exact⟨⟨j+1,oo,by rw[this],rfl⟩,by simp only[iAt,aR,aP];omega⟩};·obtain⟨M3len,M3eq,M3lt,M3sym,M3b⟩:=m3 j p;rw[<- T,<- ad]at M3eq M3lt M3b;have e0:mpx (bdr V v d i) (bdr V v d k) j=P0.set j (P0.getD j 0+1):=by{unfold mpx;rw[R]};rw[e0]at M3eq;rw[R]at M3b;have sP:SlI .i64 s (some ⟨f,0,none⟩) P0:=by{rw[eh];exact Bo _ _ _ _ _};refine sP.load rfl oo oo ⟨_,rfl,oo,oo,?_⟩;rw[aD,eh];have ew:C4 (P0.getD j 0+1)=P0.getD j 0+1:=C2 oo oo;rw[ew];refine Z6 Fa oo ?_;have ai:P0.length=(mon v D (mi3 (bdr V v d i) (bdr V v d k) j)).length:=by{rw[<- M3eq,cI]};have u:SlI .i64 (blk .i64 3 H f (P0.set j (P0.getD j 0+1))) (some ⟨f,0,none⟩) (P0.set j (P0.getD j 0+1)):=Bo _ _ _ _ _;have ax:P0.length=P0.length:=rfl;have t:=lB (P0.set j (P0.getD j 0+1));have ag:=u;rw[M3eq]at ag;have ah:∀{n:Nat} {K:VP},n=(mon v D (mi3 (bdr V v d i) (bdr V v d k) j)).length->K (.tuple #[I (mi3 (bdr V v d i) (bdr V v d k) j:Int),.bool true]) (blk .i64 3 H f (P0.set j (P0.getD j 0+1)))->aO prog 174 #[.slice A1 (mo v D).length c1,.slice (some ⟨f,0,none⟩) n n,.func (.func 175) #[] #[]] (blk .i64 3 H f (P0.set j (P0.getD j 0+1))) K:=fun {n K} hn hk=>by{subst hn;exact Nh v1 v2 d6 ((s1.mono t)) M3lt (by rw[M3eq]at u ⊢;exact u) hk};refine ah ai ⟨_,_,rfl,?_⟩;obtain⟨a5,e5,c5⟩:=(f1.row.mono E9 t).sat M3lt;refine⟨_,e5,oo,oo,_,by rw[aD];exact c5,?_⟩;have W:=(f1.sz _ M3lt).mono (show m<=5*mf by have:=q.m15;omega);refine Ey (m:=5*mf) (Q.mono t) (Tx.of ((sF j p).mono oo) oo) (Tx.of W oo) oo ⟨_,rfl,?_⟩;rw[H2,H2];have al:Sz (10*mf) (F j*V (mi3 (bdr V v d i) (bdr V v d k) j)):=(((sF j p).mono (show mf<=5*mf from oo)).mul W).mono oo;refine Nb (m:=10*mf) (Q.mono t) (Tx.of ((ae j oo).mono oo) oo) (Tx.of al oo) oo ⟨_,rfl,?_⟩;rw[H2,H2];refine u.load (by rw[cI]) oo oo ⟨_,rfl,oo,oo,?_⟩;have eg:(P0.set j (P0.getD j 0+1)).getD j 0=P0.getD j 0+1:=by{simp[bK,List.getElem?_set,show j<P0.length from oo]};rw[aD,eg,show C4 (P0.getD j 0+1-1)=P0.getD j 0 by rw[C2]<;>omega];refine Z6 Fa (by rw[cI];omega) ?_;have e9:(P0.set j (P0.getD j 0+1)).set j (P0.getD j 0)=P0:=by{rw[List.set_set];refine List.ext_getElem (by simp) fun n h1 h2=>?_;rw[List.getElem_set];split;{rename_i q;subst q;simp[bK,h2]};·rfl};rw[e9,next];exact⟨⟨j+1,oo,rfl,rfl⟩,by simp only[iAt,aR,aP];omega⟩};·obtain rfl:j=v:=oo;refine L4.push E9 I6 rfl (y:=F3 (Wb V F j d i k)) (by rfl) (aa i k N).symm dc oo fun A5 c5 h5 L5=>?_;rw[wiS k oo];exact⟨⟨k+1,_,_,oo,rfl,L5⟩,by simp only[O8];omega⟩};·obtain rfl:k=rkM V v d:=oo;rw[wiS i oo];rw[<- af]at L2 ⊢;exact⟨⟨i+1,_,_,oo,rfl,L2⟩,by simp only[O8];omega⟩};·obtain rfl:i=rkM V v d:=oo;have x:FM s IA (rkM V v d) (rkM V v d) mq (ivM V v d):=⟨r1,oo,r1,oo,q1.iv.mono E9 L.le,fun i j hi r=>(hs i j hi r).1⟩;have y:FM s mA (rkM V v d) (rkM V v d) mq (Wb V F v d):=⟨r1,oo,r1,oo,by rw[hG];exact L.row E9,fun i j hi r=>(hs i j hi r).2⟩;refine Xx (m:=mq) (Q.mono L.le) x y hq1 ?_ fun A6 c6 h6 l6 r6=>⟨_,_,_,_,_,_,rfl,hK _ _ _ (B0 l1 (B0 L.le l6)) r6⟩;have:rkM V v d*(2*mq+1)<=6*(2*mq+1):=aE _ r6;omega
end
section
variable {α β:Type} [E:Enc α] {R:aH->α->β->Prop}
def Own.set(m:Mon R){P:cD}{t:bI}(one:P.cellsOf t=E.default.size/\(P.info? t).isSome=true){h h':aH}{b n k:Nat}{f:Nat->β}(w:Own R h h' b n f)(hk:k<n){v:aU}{y:α}(hv:v.cells=(enc y).toArray){z:β}(hy:R h y z){K:Unit->aH->Prop} (x:∀h2,Own R h h2 b n (fun i=>if i=k then z else f i)->K () h2):wpH P (bD t (.pointer (some (aF ⟨b,0,none⟩ (k*E.default.size)))) v) K h':=by obtain⟨g,o,u,c,s,l,q,r⟩:=w.ex;refine S6 one hv s l oo ?_;intro h2 p A e j d;exact x h2 ⟨g,p,_,c,j,d,by simpa using q,r.upd oo (m _ _ _ _ c hy)⟩
end
section
variable {h:aH} {N:Nat}
def A1u{K:VP}{b0:Nat}(hb0:h b0=none)(hN:1<=N)(hl:N<=1000000)(hK:∀b h',(h.put b0 (.cells #[.string ({data:=#[48] }:ByteArray)] 9)).le h'->Own SSr h h' b N (fun _=>F3 0)->K (.slice (some ⟨b,0,none⟩) N N) h'): aO prog 116 #[.slice (some ⟨b0,0,none⟩) 1 1,I (N:Int)] (h.put b0 (.cells #[.string ({data:=#[48] }:ByteArray)] 9)) K:=by refine Rg (SlV.new _ _ _ _ _ _ (fun i v c=>by simpa using c)) hN hl fun b h' e s f=>hK b h' s.le ⟨_,e,aS N (F3 0),Heap.le_put _ hb0,s,⟨_,by rw[f,Zi,<- t0]⟩,by simp,fun i d=>⟨_,by rw[List.getElem?_replicate,iP d],rfl⟩⟩
end
structure MV where
 r:Int
 c:Int
 A:Option aL
 n:Nat
 cap:Nat
instance:Enc MV:=⟨⟨fun w=>[I w.r,I w.c,.slice w.A w.n w.cap],3,fun _=>rfl,fun w v hv=>by simp at hv;rcases hv with rfl|rfl|rfl<;>rfl⟩⟩
def MVr(r:Nat):aH->MV->(Nat->Rat)->Prop:=fun h w x=>w.r=r/\w.c=1/\w.n=r/\aM SSr h w.A r (fun i=>F3 (x i))
def Uh(r:Nat):Mon (MVr r):=fun _ _ _ _ l i=>⟨i.1,i.2.1,i.2.2.1,i.2.2.2.mono E9 l⟩
def RowV.mv{h:aH}{A:Option aL}{n r:Nat}{f:Nat->Nat->Rat}(x:aM (MVr r) h A n f){i:Nat}(hi:i<n):∃a B cc,A=some a/\h.cell? (aF (aF a (i*3)) 0)=some (I (r:Int))/\h.cell? (aF (aF a (i*3)) 1)=some (I 1)/\h.cell? (aF (aF a (i*3)) 2)=some (.slice B r cc)/\aM SSr h B r (fun k=>F3 (f i k)):=by obtain⟨a,w,e,⟨g,l,j,d⟩,c⟩:=x.at dc hi;exact⟨a,w.A,w.cap,e,by rw[<- g];exact c 0 _ rfl,by rw[<- l];exact c 1 _ rfl,by rw[<- j];exact c 2 _ rfl,d⟩
def kpw(M:Nat->Nat->Rat)(r:Nat):Nat->Nat->Rat
 |0=>fun i=>if i=0 then 1 else 0
 |k+1=>fun i=>sm r fun t=>M i t*kpw M r k t
section
variable {h:aH} {K:VP} {A:Option aL} {c r mq:Nat} {M:Nat->Nat->Rat}
def Rt(gl:Gl h)(x:FM h A r r mq M)(hr:r<=6)(hs:∀k,k<=r->∀i,i<r->Sz mq (kpw M r k i))(hq1:1<=mq)(hq:mq<=1000000) (hK:∀KA kc h',h.le h'->aM (MVr r) h' KA (r+1) (kpw M r)->K (.tuple #[.agg #[.slice KA (r+1) kc],I 0]) h'): aO prog 131 #[Jz r r A (r*r) c] h K:=by have B:=x.r1;refine(fnk func131 [(5,[23],[(2,1),(5,1)],[I 0,.slice none 0 0,.slice none 0 0])] (os:=[(1,[0,1,3,4,7,2,5,6,8]),(6,[0,1,2,3,4,5,6,7,8,13,9,10,11,12,14,15])]) (own:=[1,2,4,5,6])) ?_;refine V6 I6 rfl fun b0 l=>⟨_,_,_,rfl,Heap.le_put _ l,?_⟩;refine A1u l B o fun b h1 lb own=>⟨_,_,_,rfl,lb,_,rfl,o,o,?_⟩;refine own.set E9 N5 (k:=0) o (y:=F3 1) (by rw[t1];rfl) (z:=F3 1) rfl fun u d=>?_;have Q:=d.le;have m:aM SSr u (some ⟨b,0,none⟩) r (fun i=>F3 (kpw M r 0 i)):=(d.vis E9).congr fun i _=>by{show(if i=0 then F3 1 else F3 0)=F3 (if i=0 then 1 else 0);split<;>rfl};refine Lst.lit1 (R:=MVr r) (f:=kpw M r) C0e (y:=(⟨(r:Int),1,some ⟨b,0,none⟩,r,r⟩:MV)) (by rfl) dc ⟨rfl,rfl,rfl,m⟩ fun b2 h3 l3 L=>⟨_,_,_,rfl,?_⟩;refine⟨fun L F=>∃(k:Nat) (A':Option aL) (p:Nat),k<=r/\L=[I (k:Int),.slice none 0 0,.slice A' (k+1) p]/\Lst (MVr r) 64 u F A' p (k+1) (kpw M r),fun L _=>r-(iAt L 0).toNat,⟨0,_,_,o,rfl,L⟩,?_⟩;rintro z zA zn zc kA kn kc F ⟨k,A',p,hk,E,L⟩;simp only[aG,aJ,aI,true_and,and_true]at E;obtain⟨rfl,⟨rfl,rfl,rfl⟩,rfl,rfl,rfl⟩:=E;refine C1 (fun W=>?_) (fun S=>?_);{have aa:k<r:=o;have ew:C4 (((k+1:Nat):Int)-1)=(k:Int):=by{rw[C2]<;>omega};rw[ew,aD];obtain⟨g,D,Lg,cell⟩:=L.base dc;obtain⟨a,w,e,⟨V,w2,X,T⟩,s⟩:=cell k o;have g0:=s 0 _ rfl;have H:=s 1 _ rfl;have q:=s 2 _ rfl;rw[V]at g0;rw[w2]at H;rw[X]at q;refine⟨a,e,o,o,_,_,_,_,_,g0,H,q,?_⟩;have y:FM g w.A r 1 mq (fun i _=>kpw M r k i):=⟨B,o,aC _,o,(by rw[bZ];exact T.congr fun i _=>by unfold R9;rw[Nat.div_one]),fun i j O hj=>hs k o i O⟩;have G:=B0 Q D;have N:r*(2*mq+1)<=6*(2*mq+1):=aE _ hr;refine Lg.call (Uh r) fun g' n=>?_;have t:=fun K'=>Xx (K:=K') (c:=c) (c2:=w.cap) (gl.mono (B0 G n)) (x.mono (B0 G n)) (y.mono n) hq1 o;simp only[bZ]at t;refine t _ fun A5 c5 q C r5=>⟨C,fun h5 l6 L5=>⟨_,_,_,_,_,_,rfl,l6,E6 (fun e=>absurd rfl e) (fun _=>?_)⟩⟩;refine L5.push (Uh r) C0e rfl (y:=(⟨(r:Int),1,A5,r,c5⟩:MV)) (by rfl) ⟨rfl,rfl,rfl,r5.congr fun i O=>?_⟩ dc o fun A6 c6 h6 L6=>?_;{show F3 (Dh r M (fun i _=>kpw M r k i) (i/1) (i%1))=F3 (kpw M r (k+1) i);rw[Nat.div_one];rfl};rw[wiS k o];exact⟨⟨k+1,_,_,o,rfl,L6.weak (B0 D (B0 n C))⟩,by simp only[O8];omega⟩};·obtain rfl:k=r:=o;exact hK _ _ _ (B0 Q L.le) (L.row (Uh k))
end
def SB(r m:Nat):Prop:=∀n,n<=r->2*(3^n*bnd (n+1) m)+1<=40000000/\7^n*m<=40000000
def Dj(f:Nat->Nat->Rat):Nat->Nat->Rat:=fun i j=>f j i
section
variable {h:aH} {K:VP} {A KA:Option aL} {c kc nk n r mq:Nat} {M:Nat->Nat->Rat} {f:Nat->Nat->Rat}
def Bk(x:aM (MVr r) h KA nk f)(h1:1<=nk)(hn:n<=nk)(hr:r<=64)(hnk:nk<=64)(hK:∀A' c' h',h.le h'->aM SSr h' A' (r*n) (R9 (Dj f) n)->K (Jz r n A' (r*n) c') h'): aO prog 110 #[.agg #[.slice KA nk kc],I (n:Int)] h K:=by refine(fnk func110 [(4,[18],[(6,3)],[I 0,I 0,I 0,.slice none 0 0]),(7,[22],[(6,3)],[I 0,I 0,I 0,.slice none 0 0])] (own:=[2,4,6]) (wr:=[1000000000])) ?_;obtain⟨a,B,cc,e,g0,_⟩:=x.mv (i:=0) o;refine⟨a,e,o,o,_,g0,?_⟩;generalize hG:R9 (Dj f) n=G;have c:∀i k,k<n->G (i*n+k)=F3 (f k i):=fun i k u=>by{obtain⟨q,s⟩:=dm1 (i:=i) u;rw[<- hG];unfold R9 Dj;rw[q,s]};rw[hG]at hK;have D:r*n<=64*64:=aK hr o;refine⟨fun L j=>∃(i:Nat) (A':Option aL) (c':Nat),i<=r/\L=[I (i:Int),I (r:Int),I (n:Int),.slice A' (i*n) c']/\Lst SSr 9 h j A' c' (i*n) G,fun L _=>r-(iAt L 0).toNat,⟨0,none,0,o,by rw[bC];rfl,by rw[bC];exact Lst.nil⟩,?_⟩;rintro z T W X mn Q j ⟨i,A',c',hi,d,L⟩;simp only[aG,aJ,aI,true_and,and_true]at d;obtain⟨rfl,rfl,rfl,rfl,rfl,rfl⟩:=d;refine C1 (fun H=>?_) (fun C=>?_);{have g:i<r:=o;have m:(i+1)*n=i*n+n:=by{rw[bV,bU]};have O:(i+1)*n<=r*n:=aE _ g;refine⟨fun L j=>∃(k:Nat) (A':Option aL) (c':Nat),k<=n/\L=[I (k:Int),I (r:Int),I (n:Int),.slice A' (i*n+k) c']/\Lst SSr 9 h j A' c' (i*n+k) G,fun L _=>n-(iAt L 0).toNat,⟨0,X,Q,o,rfl,L⟩,?_⟩;rintro z T W E F V S ⟨k,A2,c2,u,d,L2⟩;simp only[aG,aJ,aI,true_and,and_true]at d;obtain⟨rfl,rfl,rfl,rfl,rfl,rfl⟩:=d;refine C1 (fun A=>?_) (fun w=>?_);{have l:k<n:=o;obtain⟨q,B1,M,e1,_,_,N,t⟩:=x.mv (i:=k) o;obtain⟨s,R,p⟩:=t.sat g;refine⟨q,e1,o,o,_,_,_,by rw[aD];exact C0 L2.le N,s,R,o,o,_,by rw[aD];exact C0 L2.le p,?_⟩;refine L2.pushG E9 I6 rfl (y:=F3 (f k i)) (by rfl) (c i k l).symm dc o fun A5 c5 h5 L5=>?_;rw[wiS k o];exact⟨⟨k+1,_,_,o,rfl,L5⟩,by simp only[O8];omega⟩};·obtain rfl:k=n:=o;rw[wiS i o];rw[<- m]at L2 ⊢;exact⟨⟨i+1,_,_,o,rfl,L2⟩,by simp only[O8];omega⟩};·obtain rfl:i=r:=o;exact hK _ _ _ L.le (L.row E9)
def A7p(r1:1<=r)(hr:r<=6)(hn1:1<=n)(hn:n<=r+1)(hs:∀k,k<=r->∀i,i<r->Sz mq (f k i))(x:aM SSr h A (r*n) (R9 (Dj f) n)):FM h A r n mq (Dj f):=⟨r1,o,hn1,o,x,fun i j c d=>hs j o i c⟩
def Bg(M:Nat->Nat->Rat)(r:Nat):Nat:=(ecE (Dj (kpw M r)) r r).cs.length
def A0x(M:Nat->Nat->Rat)(r:Nat):Nat->Rat:=Hi (fl (Dj (kpw M r)) (Bg M r)) (kpw M r (Bg M r)) r (Bg M r)
def An(M:Nat->Nat->Rat)(r:Nat):Nat->Rat:=fun i=>if i=Bg M r then 1 else-A0x M r i
def A0h(M:Nat->Nat->Rat)(r:Nat):Bg M r<=r:=(Q6 (Dj (kpw M r)) r r).2
def SB.rank{n:Nat}(s:SB r mq)(hn:n<=r):2*(3^n*bnd n mq)+1<=100000000:=by have d:=(s n hn).1;have c:bnd n mq<=bnd (n+1) mq:=by{unfold bnd;rw[bV,bU];omega};have:=aN (3^n) c;omega
def Ux(gl:Gl h)(x:FM h A r r mq (Dj (kpw M r)))(sb:SB r mq)(hq:mq<=1000000)(hK:K (.tuple #[I (Bg M r:Int),I 0]) h):aO prog 109 #[Jz r r A (r*r) c] h K:=Uf gl x (sb.rank (aC _)) o hK
def Kk(gl:Gl h)(x:aM (MVr r) h KA (r+1) (kpw M r))(r1:1<=r)(hr:r<=6)(hs:∀k,k<=r->∀i,i<r->Sz mq (kpw M r k i))(hq1:1<=mq)(hq:mq<=1000000)(sb:SB r mq)(hd:1<=Bg M r)(ok:S0 (fl (Dj (kpw M r)) (Bg M r)) (kpw M r (Bg M r)) r (Bg M r)) (hx:∀i,i<Bg M r->Sz 10000000 (A0x M r i)) (hK:∀A' c' h',h.le h'->aM SSr h' A' (Bg M r+1) (fun i=>F3 (An M r i))->K (.tuple #[.slice A' (Bg M r+1) c',I 0]) h'): aO prog 62 #[.agg #[.slice KA (r+1) kc]] h K:=by have d:=A0h M r;refine(fnk func62 [(10,[49],[],[I 0])] (os:=[(5,[0,1,3,4,5,6,7,8,2,9,10,11,12,13,14,15,16])]) (own:=[1])) ?_;obtain⟨a,B,X,e,g0,_⟩:=x.mv (i:=0) o;refine⟨a,e,o,o,_,g0,?_⟩;refine Bk x o o o o fun A1 c1 h1 f E=>⟨_,_,_,_,_,rfl,?_⟩;refine Ux (gl.mono f) (A7p r1 hr r1 o hs E) sb hq ⟨_,_,rfl,E6 (fun e=>absurd rfl e) (fun _=>?_)⟩;obtain⟨T,B2,V,H,_,_,C,m⟩:=(x.mono (Uh r) f).mv (i:=Bg M r) o;refine⟨T,H,o,o,_,_,_,C,?_⟩;refine Bk (x.mono (Uh r) f) o (show Bg M r<=r+1 from o) o o fun A3 c3 h3 l G=>⟨_,_,_,_,_,rfl,l,?_⟩;refine Im (gl.mono (B0 f l)) (A7p r1 hr hd o hs G) (m.mono E9 l) (fun i s=>hs _ d i s) ok hq1 ⟨(sb _ d).1,(sb _ (aC _)).1,(sb _ d).2,(sb _ (aC _)).2⟩ fun A5 c5 B5 W d5 F p N=>⟨_,_,_,_,_,_,_,rfl,p,E6 (fun e=>absurd rfl e) (fun _=>?_)⟩;rw[show C4 (((Bg M r:Nat):Int)+1)=((Bg M r+1:Nat):Int) by rw[C2]<;>omega];refine I3 I6 (zx:=([]:List UInt8)) rfl o o o o fun b A=>⟨_,_,_,rfl,?_⟩;rw[aD];have n:∀i,i<Bg M r->An M r i= - A0x M r i:=fun i s=>by{unfold An;rw[iN o]};refine⟨fun L q=>∃k:Nat,k<=Bg M r/\L=[I k]/\OwnK SSr F q b (Bg M r+1) k (fun i=>F3 (An M r i)),fun L _=>Bg M r-(iAt L 0).toNat,⟨0,o,rfl,OwnK.zero A⟩,?_⟩;rintro z q ⟨k,hk,O,w⟩;obtain rfl:=sI1 O;have g:=B0 f (B0 l p);refine C1 (fun u=>?_) (fun t=>?_);{have c:k<Bg M r:=o;obtain⟨R,D,c6⟩:=(N.mono E9 w.le).sat c;refine⟨R,D,o,o,_,by rw[aD];exact c6,?_⟩;have Q:=hx k c;refine B04 (gl.mono (B0 g w.le)) (Tx.of Q o).len ⟨_,rfl,_,rfl,o,o,?_⟩;rw[H2,aD];refine w.fill E9 N5 (y:=F3 (An M r k)) o (by rw[n k c];rfl) rfl fun S j=>?_;rw[wiS k o];exact⟨⟨k+1,o,rfl,j⟩,by simp only[O8];omega⟩};·obtain rfl:k=Bg M r:=o;refine⟨_,rfl,o,o,?_⟩;rw[aD];refine w.fill E9 N5 (y:=F3 (An M r (Bg M r))) o (by rw[t1];unfold An;rw[iP rfl];rfl) rfl fun S j=>?_;exact hK _ _ _ (B0 g j.le) (j.own.vis E9)
end
structure KB (V F:Nat->Rat) (v d mq:Nat):Prop where
 iv:∀ i k,i<rkM V v d->k<rkM V v d->Sz mq (ivM V v d i k)
 vl:∀ i k,i<rkM V v d->k<rkM V v d->Sz mq (Wb V F v d i k)
 fm:∀ i k,i<rkM V v d->k<rkM V v d->Sz mq (fmM V F v d i k)
 pw:∀ k,k<=rkM V v d->∀ i,i<rkM V v d->Sz mq (kpw (fmM V F v d) (rkM V v d) k i)
def frm(c:Nat):Nat->Rat
 |0=>1
 |i+1=>(c:Rat)*frm c i
def Vu{h h':aH}{A:Option aL}{xs:List aU}(s:SlV h A xs)(hc:∀a v,v∈xs->h.cell? a=some v->h'.cell? a=some v):SlV h' A xs:=by rcases s with rfl|⟨a,rfl,e⟩;{exact .inl rfl};·exact .inr ⟨a,rfl,fun i v c=>hc _ _ (List.mem_of_getElem? c) (e i v c)⟩
section
variable {h:aH} {K:VP} {A BA IA FA:Option aL} {c bc ic fc m mf mq v d D:Nat} {V F:Nat->Rat}
def Ol(gl:Gl h)(q:Quo h A BA IA v D m d V)(fr:aM SSr h FA v (fun i=>F3 (F i)))(sF:∀i,i<v->Sz mf (F i))(hmf:15<=mf/\mf<=1000000)(kb:KB V F v d mq)(hq1:1<=mq)(hq:mq<=1000000) (hK:∀KA kc h',h.le h'->aM (MVr (rkM V v d)) h' KA (rkM V v d+1) (kpw (fmM V F v d) (rkM V v d))->K (.tuple #[.agg #[.slice KA (rkM V v d+1) kc],I 0]) h'): aO prog 88 #[B9z A BA IA c bc ic v D (rkM V v d),.slice FA v fc] h K:=by refine(fnk func88 (own:=[2,4,6])) ?_;refine Fl gl q fr sF hmf (fun i k j f=>⟨kb.iv i k j f,kb.vl i k j f⟩) hq1 hq fun A1 c1 s g p=>⟨_,_,_,_,_,_,rfl,E6 (fun e=>absurd rfl e) (fun _=>?_)⟩;have:=q.r6;exact Rt (gl.mono g) ⟨q.r1,o,q.r1,o,p,kb.fm⟩ q.r6 kb.pw hq1 hq fun KA kc r n l=>⟨_,_,_,_,rfl,hK _ _ _ (B0 g n) l⟩
end
def C5e:List aU->Nat
 | [.string b]=>(rv b.data.toList).num.toNat
 |_=>0
def B3v(k:Nat):C5e [.string (bs (F3 (k:Rat)))]=k:=by show(rv (bs (F3 (k:Rat))).data.toList).num.toNat=k;have:(bs (F3 (k:Rat))).data.toList=F3 (k:Rat):=by{simp[bs]};rw[this,H2];simp
def Ih{k:Nat}(hk:k<=1000):Sz 10 (k:Rat):=by refine⟨?_,?_⟩;{show((k:Rat).num).natAbs<_;simp;omega};·show(((k:Rat).den:Nat):Int).natAbs<_;simp
def Xb{k:Nat}(hk:k<=1000):∀i,Sz (10*i+1) (frm k i):=by
 intro i
 induction i with
 |zero=>exact⟨ZB.one o,ZB.one o⟩
 |succ i ih=>exact((Ih hk).mul ih).mono o
def A4w{h g0:aH}{f0:aL}{v N:Nat}(hg:Gl g0)(e0:g0.cell? f0=some (I (v:Int)))(h1:1<=v)(h2:v<=6)(hN:N<=999){B:List aU->aH->(aH->Prop)->(aH->Prop)->Prop}{K KR:aH->Prop}(J:Nat->aH->Prop)(JR:aH->Prop)(hJ:J 0 h)(hle:∀k h,J k h->g0.le h)
 (hB:∀k h1 h2 A c,k<=N->J k h1->h1.le h2->aM SSr h2 A v (fun i=>F3 (frm k i))->B [.slice A v c] h2 (fun h3=>k<N/\J (k+1) h3) JR) (hK:∀h1,JR h1->KR h1):A7y prog (.func (.func 149) #[] #[.pointer (some f0)]) h B K KR:=by
 refine⟨149,#[],#[.pointer (some f0)],rfl,Wy,?_⟩;intro l rec hl p;have O:(#[] ++ #[.func (.yield l) #[] #[]] ++ #[.pointer (some f0)]:Array aU)=#[.func (.yield l) #[] #[],.pointer (some f0)]:=by simp
 rw[O];refine(fnk func149 [(2,[3],[],[.string ⟨#[]⟩]),(4,[4,10],[],[.slice none 0 0,I 0])]) ?_;refine⟨fun L g=>∃(k:Nat) (h1:aH),k<=N/\L=[.string (bs (F3 (k:Rat)))]/\h1 l=none/\g=h1.put l (.loop rec)/\J k h1,fun L _=>N+1-C5e L,⟨0,h,oo,by rw[t0];rfl,hl,rfl,hJ⟩,?_⟩;rintro cs g ⟨k,n,hk,F,w,rfl,W⟩;obtain rfl:cs=bs (F3 (k:Rat)):=by simpa using F
 have T:=B0 (hle k n W) (Heap.le_put (.loop rec) w);refine Lst.lit1 (R:=SSr) (f:=fun i=>F3 (frm k i)) I6 (y:=F3 1) (by rw[t1];rfl) dc rfl fun b h3 l3 L=>⟨_,_,_,rfl,_,C0 (B0 T l3) e0,?_⟩;refine⟨fun L g=>∃(j:Nat) (A':Option aL) (D:Nat),j+1<=v/\L=[.slice A' (j+1) D,I (j:Int)]/\Lst SSr 9 (n.put l (.loop rec)) g A' D (j+1) (fun i=>F3 (frm k i)),fun L _=>v-(iAt L 1).toNat,⟨0,_,_,h1,rfl,L⟩,?_⟩;rintro S fn fc z g ⟨j,A',D,hj,F,L⟩;obtain⟨⟨rfl,rfl,rfl⟩,rfl⟩:=sI2 F;rw[show C4 ((v:Int)-1)=((v-1:Nat):Int) by rw[C2]<;>omega];refine C1 (fun aa=>?_) (fun X=>?_)
 ·rw[show C4 (((j+1:Nat):Int)-1)=(j:Int) by rw[C2]<;>omega];obtain⟨a,O,c0⟩:=(L.row E9).sat (show j<j+1 from oo);refine⟨a,O,oo,oo,_,c0,?_⟩;have sf:=(Xb (k:=k) oo j).mono (show 10*j+1<=100 from oo);refine Ey (m:=100) (hg.mono (B0 T L.le)) (Tx.of ((Ih oo).mono oo) oo) (Tx.of sf oo) oo ⟨_,rfl,?_⟩;rw[H2,H2];refine L.push E9 I6 rfl (y:=F3 (frm k (j+1))) (by rfl) rfl dc oo fun A5 c5 C L5=>?_;rw[wiS j oo];exact⟨⟨j+1,_,_,oo,rfl,L5⟩,by simp only[iAt,aR,aP];omega⟩
 ·obtain rfl:v=j+1:=oo;have V:g l=some (.loop rec):=L.le _ _ (C3 _ _ _);let H:aH:=fun x=>if x=l then none else g x
  have eh:g=H.put l (.loop rec):=funext fun x=>by
   unfold Heap.put;by_cases d:x=l;·rw[iP d,d];exact V
   ·rw[iN d];show g x=if x=l then none else g x;rw[iN d]
  have M:H l=none:=iP rfl
  have lH:n.le H:=fun x o G=>by
   have d:x≠l:=fun q=>by rw[q,w]at G;cases G
   show(if x=l then none else g x)=_;rw[iN d];exact L.le _ _ (by rw[B9 _ _ d];exact G)
  have row:aM SSr H S (j+1) (fun i=>F3 (frm k i)):=by
   obtain⟨xs,s,hn,r⟩:=L.row E9;refine⟨xs,Vu s fun a u _ e=>?_,hn,r⟩;unfold Heap.cell? at e ⊢;by_cases d:a.block=l;·rw[d,V]at e;cases e
   ·show(match (if a.block=l then none else g a.block)with|some (.cells c _ _)=>_|_=>_)=_
    rw[iN d];exact e
  rw[eh];refine(p _ H (fun h3=>k<N/\J (k+1) h3) JR M (hB k n H S fc hk W lH row)).mono ?_;rintro r h4 ⟨C,t,⟨rfl,rfl,ac,Q⟩|⟨rfl,rfl,jr⟩⟩
  ·refine⟨_,rfl,Br.nt ?_⟩;have E:=B0 (hle _ C Q) (Heap.le_put (.loop rec) t);rw[t1];refine Nb (m:=100) (hg.mono E) (Tx.of ((Ih oo).mono oo) oo) (Tx.of (m:=100) ⟨ZB.one oo,ZB.one oo⟩ oo) oo ⟨_,rfl,?_⟩;rw[H2,H2,show((k:Rat)+1)=((k+1:Nat):Rat) by simp];exact⟨⟨k+1,C,oo,rfl,t,rfl,Q⟩,by simp only[B3v];omega⟩
  ·exact⟨_,rfl,Wz ⟨C,t,.inr ⟨rfl,hK _ jr⟩⟩⟩
def Pres(h h':aH):Prop:=∀a v,v ≠ .slice none 0 0->v≠I 0->h.cell? a=some v->h'.cell? a=some v
def Pres.put{h:aH}{b:Nat}{u x:aU}{e e':bI}(hb:h b=some (.cells #[u] e))(hu:u= .slice none 0 0\/u=I 0):Pres h (h.put b (.cells #[x] e')):=fun a v f g c=>by unfold Heap.cell? at c ⊢;by_cases d:a.block=b;{grind};·rw[B9 _ _ d];exact c
def RowV.presS{h h':aH}{A:Option aL}{n:Nat}{f:Nat->List UInt8}(p:Pres h h')(x:aM SSr h A n f):aM SSr h' A n f:=by obtain⟨g,s,i,r⟩:=x;refine⟨g,Vu s fun a v d e=>?_,i,r⟩;obtain⟨w,_,c⟩:=List.mem_flatMap.1 d;obtain rfl:v= .string (bs w):=List.mem_singleton.1 c;exact p _ _ (by simp) (by simp) e
def RowV.presM{h h':aH}{A:Option aL}{n r:Nat}{f:Nat->Nat->Rat}(p:Pres h h')(hr:1<=r)(x:aM (MVr r) h A n f):aM (MVr r) h' A n f:=by obtain⟨z,s,B,q⟩:=x;refine⟨z,Vu s fun a v y e=>?_,B,fun i u=>?_⟩;{obtain⟨w,j,g⟩:=List.mem_flatMap.1 y;obtain⟨i,u,D⟩:=List.mem_iff_getElem.1 j;obtain⟨d,F,t,l,m,k⟩:=q i o;obtain rfl:d=w:=gz0;obtain⟨C,E,_⟩:=k.sat (i:=0) o;have g:v∈([I d.r,I d.c,.slice d.A d.n d.cap]:List aU):=g;simp only[List.mem_cons,List.not_mem_nil,or_false]at g;rcases g with rfl|rfl|rfl;{exact p _ _ (by simp) gz0 e};{exact p _ _ (by simp) gz0 e};·exact p _ _ gz0 (by simp) e};·obtain⟨w,e,t,l,m,k⟩:=q i u;exact⟨w,e,t,l,m,k.presS p⟩
def C4q{h:aH}{b b1 b2 b3:Nat}{o o1 o2 o3:Obj}(hb:h b=none)(hb1:(h.put b o) b1=none)(hb2:((h.put b o).put b1 o1) b2=none)(hb3:(((h.put b o).put b1 o1).put b2 o2) b3=none):∃H:aH,(((h.put b o).put b1 o1).put b2 o2).put b3 o3=H/\h.le H/\H b=some o/\H b1=some o1/\H b2=some o2/\H b3=some o3/\b1≠b2/\b1≠b3/\b2≠b3/\h b1=none/\h b2=none/\h b3=none:=by have f:b1≠b:=fun q=>by{rw[q,C3]at hb1;cases hb1};have g:b2≠b1:=fun q=>by{rw[q,C3]at hb2;cases hb2};have e:b2≠b:=fun q=>by{rw[q,B9 _ _ (Ne.symm f),C3]at hb2;cases hb2};have i:b3≠b2:=fun q=>by{rw[q,C3]at hb3;cases hb3};have d:b3≠b1:=fun q=>by{rw[q,B9 _ _ (Ne.symm g),C3]at hb3;cases hb3};have c:b3≠b:=fun q=>by{rw[q,B9 _ _ (Ne.symm e),B9 _ _ (Ne.symm f),C3]at hb3;cases hb3};refine⟨_,rfl,B0 (Heap.le_put _ hb) (B0 (Heap.le_put _ hb1) (B0 (Heap.le_put _ hb2) (Heap.le_put _ hb3))),?_,?_,?_,C3 _ _ _,Ne.symm g,Ne.symm d,Ne.symm i,?_,?_,?_⟩;{rw[B9 _ _ (Ne.symm c),B9 _ _ (Ne.symm e),B9 _ _ (Ne.symm f),C3]};{rw[B9 _ _ (Ne.symm d),B9 _ _ (Ne.symm g),C3]};{rw[B9 _ _ (Ne.symm i),C3]};{rwa [B9 _ _ f]at hb1};{rwa [B9 _ _ g,B9 _ _ e]at hb2};·rwa [B9 _ _ i,B9 _ _ d,B9 _ _ c]at hb3
def Er{h:aH}{b i:Nat}{cs:Array aU}{e:bI}{v:aU}(hb:h b=some (.cells cs e))(hv:cs[i]? = some v):h.cell? (aF ⟨b,0,none⟩ i)=some v:=by rw[D6];unfold Heap.cell?;grind
def A5e{h g:aH}{b:Nat}{o:Obj}(l:h.le g)(hb:h b=none):h.le (g.put b o):=fun k u e=>by rw[B9 _ _ (fun q=>gz0)];exact l _ _ e
section
variable {h:aH} {K:VP} {A BA IA:Option aL} {c bc ic m mq v d D N:Nat} {V:Nat->Rat}
def Fk(gl:Gl h)(q:Quo h A BA IA v D m d V)(hN:N<=999)(kb:∀k,k<=N->KB V (frm k) v d mq)(hq1:1<=mq)(hq:mq<=1000000)(sb:SB (rkM V v d) mq) (hno:∀k,k<N->Bg (fmM V (frm k) v d) (rkM V v d)≠rkM V v d) (hyes:Bg (fmM V (frm N) v d) (rkM V v d)=rkM V v d) (hK:∀FA fc KA kc h',h.le h'->aM SSr h' FA v (fun i=>F3 (frm N i))->aM (MVr (rkM V v d)) h' KA (rkM V v d+1) (kpw (fmM V (frm N) v d) (rkM V v d))->K (.tuple #[.slice FA v fc,.agg #[.slice KA (rkM V v d+1) kc],I 0]) h'): aO prog 61 #[B9z A BA IA c bc ic v D (rkM V v d)] h K:=by have v1:=q.fn.v1;have v2:=q.fn.v2;have r:=q.r1;have r6:=q.r6;refine(fnk func61 (rs:=[(3,[.slice none 0 0]),(1000003,[])]) (own:=[6]) (wr:=[1000000000])) ?_;refine Qm fun b hb=>⟨_,rfl,?_⟩;refine Iz (z:=.slice none 0 0) (size:=1) (bytes:=24) (by kernel_rfl) fun p ac=>⟨_,rfl,?_⟩;refine Iz (z:=.agg #[.slice none 0 0]) (size:=1) (bytes:=24) (by kernel_rfl) fun w W=>⟨_,rfl,?_⟩;refine Iz (z:=I 0) (size:=1) (bytes:=8) (by kernel_rfl) fun s ad=>⟨_,rfl,?_⟩;obtain⟨H,eH,G,f0,f1,f2,f3,B,C,y,x1,x2,x3⟩:=C4q hb ac W ad;rw[eH];refine⟨(v:Int),by exact Er f0 rfl,?_⟩;refine(fnk func108) ?_;refine Qm fun T aa=>⟨_,rfl,_,rfl,?_⟩;have Q:=Heap.le_put (h:=H) (.cells (cG (I (v:Int))) 3) aa;have e4:(H.put T (.cells (cG (I (v:Int))) 3)).cell? ⟨T,0,none⟩=some (I (v:Int)):=by{rw[D8];rfl};generalize H.put T (.cells (cG (I (v:Int))) 3)=H4 at Q e4 ⊢;have S:=B0 G Q;refine A4w (g0:=H4) (N:=N) (gl.mono S) e4 v1 o hN (fun k hx=>H4.le hx) (fun j=>∃FA fc KA kc,j.cell? ⟨p,0,none⟩=some (.slice FA v fc)/\j.cell? (aF ⟨w,0,none⟩ 0)=some (.slice KA (rkM V v d+1) kc)/\j.cell? ⟨s,0,none⟩=some (I 0)/\h.le j/\aM SSr j FA v (fun i=>F3 (frm N i))/\aM (MVr (rkM V v d)) j KA (rkM V v d+1) (kpw (fmM V (frm N) v d) (rkM V v d))) (B7 _) (fun _ _ l=>l) ?_ ?_;{intro k h1 h2 FA fc hk X M row;have lh:=B0 X M;have g:=B0 Q lh;have g0:=g _ _ f0;refine⟨_,_,_,rfl,_,_,_,_,_,_,_,_,_,_,_,_,_,Er g0 rfl,Er g0 rfl,Er g0 rfl,Er g0 rfl,Er g0 rfl,Er g0 rfl,Er g0 rfl,?_⟩;have q2:=q.mono (B0 G g);have E:=gl.mono (B0 G g);refine Ol (mf:=100) E q2 row (fun i hi=>(Xb o i).mono o) o (kb k hk) hq1 hq fun KA kc h3 l3 r3=>⟨_,_,_,_,rfl,E6 (fun e=>absurd rfl e) (fun _=>?_)⟩;have g3:=l3 _ _ g0;refine⟨_,_,_,Er g3 rfl,?_⟩;refine Bk r3 o o o o fun A4 c4 F l5 r4=>⟨_,_,_,_,_,rfl,?_⟩;have f:=B0 l3 l5;refine Ux (E.mono f) (A7p r r6 r o (kb k hk).pw r4) sb hq ⟨_,_,rfl,E6 (fun e=>absurd rfl e) (fun _=>?_)⟩;have g4:=f _ _ g0;refine⟨_,_,_,Er g4 rfl,?_⟩;refine D5 (fun e=>?_) (fun e=>?_);{obtain rfl:k=N:=by{grind};have k1:=f _ _ (g _ _ f1);have k2:=f _ _ (g _ _ f2);have k3:=f _ _ (g _ _ f3);have O:=B0 (B0 G g) f;have t:=row.mono E9 f;have L:=r3.mono (Uh _) l5;rw[<- Hc k1];refine Bm (by kernel_rfl) (by kernel_rfl) rfl rfl dc ?_;obtain⟨H5,e5,P5,c5,k25,k35,l5'⟩:∃H5,F.put p (.cells ((cG (.slice none 0 0)).setIfInBounds 0 (.slice FA v fc)) _)=H5/\Pres F H5/\H5 p=some (.cells #[.slice FA v fc] _)/\H5 w=F w/\H5 s=F s/\h.le H5:=⟨_,rfl,Pres.put k1 (.inl rfl),C3 _ _ _,B9 _ _ (Ne.symm B),B9 _ _ (Ne.symm C),A5e O x1⟩;rw[e5];rw[k2]at k25;rw[k3]at k35;rw[<- Hc k25];refine Xc (off:=0) (n:=1) (arr:=[.slice none 0 0]) (vs:=[.slice KA (rkM V v d+1) kc]) ⟨by kernel_rfl,by kernel_rfl⟩ rfl rfl (fun u hu=>by rw[List.mem_singleton.1 hu];rfl) dc ?_;obtain⟨H6,e6,P6,c6,k16,k36,l6'⟩:∃H6,H5.put w (.cells (I8 [.slice none 0 0] 0 [.slice KA (rkM V v d+1) kc]).toArray _)=H6/\Pres H5 H6/\H6 w=some (.cells #[.slice KA (rkM V v d+1) kc] _)/\H6 p=H5 p/\H6 s=H5 s/\h.le H6:=⟨_,rfl,Pres.put k25 (.inl rfl),C3 _ _ _,B9 _ _ B,B9 _ _ (Ne.symm y),A5e l5' x2⟩;rw[e6];rw[k35]at k36;rw[c5]at k16;rw[<- Hc k36];refine Bm (by kernel_rfl) (by kernel_rfl) rfl rfl dc ?_;refine⟨FA,fc,KA,kc,?_,?_,?_,A5e l6' x3,((t.presS P5).presS P6).presS (Pres.put k36 (.inr rfl)),((L.presM P5 r).presM P6 r).presM (Pres.put k36 (.inr rfl)) r⟩;{unfold Heap.cell?;rw[B9 _ _ C,k16];rfl};{rw[D6];unfold Heap.cell?;rw[B9 _ _ y,c6];rfl};·unfold Heap.cell?;rw[C3];rfl};·have R:k<N:=by{grind};exact⟨R,B0 lh f⟩};grind
end
def trN(f:Nat->Rat):Nat->Nat
 |0=>0
 |n+1=>if f n=0 then trN f n else n+1
def A6c(f:Nat->Rat):∀n,trN f n<=n:=by
 intro n
 induction n with
 |zero=>exact aC _
 |succ n ih=>unfold trN;grind
def uni(j:Nat):Nat->Rat:=fun i=>if i=j then 1 else 0
section
variable {h:aH} {K:VP} {A BA IA KA:Option aL} {c bc ic kc m mq n v d D:Nat} {V f:Nat->Rat}
def A30{j:Nat}(gl:Gl h)(q:Quo h A BA IA v D m d V)(hj:j<v)(kb:∀i k,i<rkM V v d->k<rkM V v d->Sz mq (ivM V v d i k)/\Sz mq (Wb V (uni j) v d i k))(hq1:1<=mq)(hq:mq<=1000000) (hK:∀A' c' h',h.le h'->aM SSr h' A' (rkM V v d*rkM V v d) (R9 (fmM V (uni j) v d) (rkM V v d))->K (.tuple #[Jz (rkM V v d) (rkM V v d) A' (rkM V v d*rkM V v d) c',I 0]) h'): aO prog 72 #[B9z A BA IA c bc ic v D (rkM V v d),I (j:Int)] h K:=by have p:=q.fn.v1;have t:=q.fn.v2;refine(fnk func72 (own:=[2,4])) ?_;refine V6 I6 rfl fun b0 f=>⟨_,_,_,rfl,?_⟩;refine A1u f p o fun b s w own=>⟨_,_,_,rfl,_,rfl,o,o,?_⟩;refine own.set E9 N5 (k:=j) hj (y:=F3 1) (by rw[t1];rfl) (z:=F3 1) rfl fun n e=>?_;have g:=e.le;have row:aM SSr n (some ⟨b,0,none⟩) v (fun i=>F3 (uni j i)):=(e.vis E9).congr fun i _=>by{show(if i=j then F3 1 else F3 0)=F3 (if i=j then 1 else 0);grind};refine Fl (mf:=100) (gl.mono g) (q.mono g) row (fun i _=>?_) o kb hq1 hq fun A1 c1 u r l=>⟨_,_,_,_,_,_,rfl,hK _ _ _ (B0 g r) l⟩;unfold uni;split;{exact⟨ZB.one o,ZB.one o⟩};·exact Sz.zero o
def St(gl:Gl h)(x:aM SSr h A n (fun i=>F3 (f i)))(hn:n<=65)(hs:∀i,i<n->Sz m (f i))(hm:m<=40000000)
 (hK:∀A' c' h',h.le h'->aM SSr h' A' (trN f n) (fun i=>F3 (f i))->K (.tuple #[.slice A' (trN f n) c',I 0]) h'):aO prog 113 #[.slice A n c] h K:=by
 refine(fnk func113) ?_;refine Do gl x o (fun i E=>(Tx.of (hs i E) hm).len) (fun _ b j own=>⟨_,_,_,_,rfl,Br.nt ?_⟩) (fun no=>absurd (fun i _=>⟨_,rfl⟩) no);have F:=own.le;have H:aM RQr j (some ⟨b,0,none⟩) n f:=(own.vis H1).congr fun i _=>H2 _;refine(fnk func158 [(1,[0],[],[.slice none 0 0])]) ?_
 have s:∀{k d:Nat} {VA:Option aL} {K':VP},k<=n->aM RQr j VA k f->(∀q g,j.le g->aM SSr g (some ⟨q,0,none⟩) k (fun i=>F3 (f i))->K' (.slice (some ⟨q,0,none⟩) k k) g)->aO prog 155 #[.slice VA k d] j K':=fun {k d VA K'} C r kk=>
  Y6 (gl.mono F) r o (fun i E=>hs i o) hm fun q g D=>kk q g D.le (D.vis E9);refine⟨fun L z=>∃(k:Nat) (VA:Option aL) (d:Nat),k<=n/\k<=d/\L=[.slice VA k d]/\z=j/\aM RQr j VA k f/\trN f k=trN f n,fun L _=>match L with|[.slice _ k _]=>k|_=>0,⟨n,_,_,aC _,aC _,rfl,rfl,H,rfl⟩,?_⟩
 rintro VA k d z ⟨W,VA0,M,C,t,S,rfl,r,R⟩;obtain⟨rfl,rfl,rfl⟩:=S
 have done:trN f k=k->aO prog 155 #[.slice VA k d] z (fun N u=>∃(t23A:Option aL) (t23n:Nat) (t23c:Nat),N= .slice t23A t23n t23c/\aO prog 209 #[.slice t23A t23n t23c] u (fun B p=>∃(t25:Bool),B= .bool t25/\Br (!t25) (∃(a:Option aL) (b c:Nat) (e:Int),Value.tuple #[.slice none 0 0,I (2:Int)]= .tuple #[.slice a b c,I e]/\K (.tuple #[.slice a b c,I e]) p) (∃(a:Option aL) (b c:Nat) (e:Int),Value.tuple #[.slice t23A t23n t23c,I (0:Int)]= .tuple #[.slice a b c,I e]/\K (.tuple #[.slice a b c,I e]) p))):=fun e=>
  s C r fun q g V B=>⟨_,_,_,rfl,by refine(fnk func209) ?_;exact⟨_,rfl,Br.not (C1 (fun _=>⟨_,_,_,_,rfl,by
   have Q:trN f n=k:=o;rw[Q]at hK;exact hK _ _ _ (B0 F V) B⟩) (fun no=>o))⟩⟩;refine C1 (fun O=>?_) (fun G=>?_)
 ·obtain⟨k,rfl⟩:∃k',k=k'+1:=⟨k-1,o⟩;rw[show C4 (((k+1:Nat):Int)-1)=(k:Int) by rw[C2]<;>omega,aD];obtain⟨a,w,e,T,c0,c1,c2,c3⟩:=r.qat (show k<k+1 from o);refine⟨a,e,o,o,_,_,_,_,_,_,_,_,c0,c1,c2,c3,?_⟩;refine Dn T ⟨_,rfl,C1 (fun y=>?_) (fun y=>?_)⟩
  ·refine⟨⟨o,o⟩,⟨k,_,_,o,o,rfl,rfl,?_,?_⟩,?_⟩
   ·have:=(r.cut (c:=d) (l:=0) (k:=k) o t);exact this.congr fun i _=>by rw[Nat.zero_add]
   ·rw[<- R,trN,iP y]
   grind
  ·exact done (by rw[trN,iN y])
 ·obtain rfl:k=0:=o;exact done rfl
def Yf(V:Nat->Rat)(v d:Nat)(M:Nat->Nat->Rat)(j:Nat):Nat->Rat:=Hi (fl (Dj (kpw M (rkM V v d))) (rkM V v d)) (fun i=>fmM V (uni j) v d i 0) (rkM V v d) (rkM V v d)
def Qh{j:Nat}{M:Nat->Nat->Rat}(gl:Gl h)(q:Quo h A BA IA v D m d V)(hj:j<v)(kb:∀i k,i<rkM V v d->k<rkM V v d->Sz mq (ivM V v d i k)/\Sz mq (Wb V (uni j) v d i k))(hq1:1<=mq)(hq:mq<=1000000) (x:aM (MVr (rkM V v d)) h KA (rkM V v d+1) (kpw M (rkM V v d))) (hs:∀k,k<=rkM V v d->∀i,i<rkM V v d->Sz mq (kpw M (rkM V v d) k i)) (sf:∀i,i<rkM V v d->Sz mq (fmM V (uni j) v d i 0)) (sb:SB (rkM V v d) mq) (ok:S0 (fl (Dj (kpw M (rkM V v d))) (rkM V v d)) (fun i=>fmM V (uni j) v d i 0) (rkM V v d) (rkM V v d)) (hx:∀i,i<rkM V v d->Sz 10000000 (Yf V v d M j i)) (hK:∀A' c' h',h.le h'->aM SSr h' A' (trN (Yf V v d M j) (rkM V v d)) (fun i=>F3 (Yf V v d M j i))->K (.tuple #[.slice A' (trN (Yf V v d M j) (rkM V v d)) c',I 0]) h'): aO prog 63 #[B9z A BA IA c bc ic v D (rkM V v d),.agg #[.slice KA (rkM V v d+1) kc],I (j:Int)] h K:=by have s:=q.r1;have r6:=q.r6;have T:rkM V v d*rkM V v d<=6*6:=aK r6 r6;refine(fnk func63 [(6,[28],[],[I 0])] (own:=[3,4,8])) ?_;refine A30 gl q hj kb hq1 hq fun A1 c1 O X p=>⟨_,_,_,_,_,_,rfl,E6 (fun e=>absurd rfl e) (fun _=>?_)⟩;refine I3 I6 (zx:=([]:List UInt8)) rfl o o o o fun b H=>⟨_,_,_,rfl,?_⟩;refine⟨fun L B=>∃k:Nat,k<=rkM V v d/\L=[I k]/\OwnK SSr O B b (rkM V v d) k (fun i=>F3 (fmM V (uni j) v d i 0)),fun L _=>rkM V v d-(iAt L 0).toNat,⟨0,o,rfl,OwnK.zero H⟩,?_⟩;rintro z B ⟨k,hk,eL,w⟩;obtain rfl:z=(k:Int):=gz0;refine C1 (fun F=>?_) (fun C=>?_);{have f:k<rkM V v d:=o;have r:=R8 f (show 0<rkM V v d from o);obtain⟨a,e,c0⟩:=(p.mono E9 w.le).sat r;have Q:C4 ((k:Int)*(rkM V v d:Int))=((k*rkM V v d+0:Nat):Int):=by{exact O1 (n:=k*rkM V v d) o};have E:R9 (fmM V (uni j) v d) (rkM V v d) (k*rkM V v d+0)=F3 (fmM V (uni j) v d k 0):=by{obtain⟨a1,a2⟩:=dm1 (i:=k) (show 0<rkM V v d from o);unfold R9;grind};rw[Q];refine⟨a,e,o,o,_,by exact c0,_,rfl,o,o,?_⟩;refine w.fill E9 N5 (y:=F3 (fmM V (uni j) v d k 0)) f (by rw[E];rfl) rfl fun W G=>?_;rw[wiS k o];exact⟨⟨k+1,o,rfl,G⟩,by simp only[O8];omega⟩};·obtain rfl:k=rkM V v d:=o;have t:=B0 X w.le;refine Bk (x.mono (Uh _) t) o o o o fun A3 c3 W u R=>⟨_,_,_,_,_,rfl,?_⟩;have g:=B0 t u;refine Im (gl.mono g) (A7p s r6 s o hs R) ((w.own.vis E9).mono E9 u) sf ok hq1 ⟨(sb _ (aC _)).1,(sb _ (aC _)).1,(sb _ (aC _)).2,(sb _ (aC _)).2⟩ fun A5 c5 B5 n5 d5 h5 N S=>⟨_,_,_,_,_,_,_,rfl,E6 (fun e=>absurd rfl e) (fun _=>?_)⟩;have l:=B0 g N;exact St (m:=10000000) (gl.mono l) S o hx o fun A6 c6 h6 l6 r6=>⟨_,_,_,_,rfl,hK _ _ _ (B0 l l6) r6⟩
end
def psT(P:Nat->Rat)(deg:Nat)(S:Nat->Rat)(k:Nat):Nat->Rat
 |0=>0
 |i+1=>psT P deg S k i-P (deg-(i+1))*(if i+1=k then(k:Rat)else S (k-(i+1)))
def psF(P:Nat->Rat)(deg:Nat):Nat->Nat->Rat
 |0=>fun _=>(deg:Rat)
 |k+1=>fun j=>if j<=k then psF P deg k j else psT P deg (psF P deg k) (k+1) (min (k+1) deg)
def ps(P:Nat->Rat)(deg k:Nat):Rat:=psF P deg k k
def C22(P:Nat->Rat)(deg:Nat):∀k j,j<=k->psF P deg k j=ps P deg j:=by
 intro k
 induction k with
 |zero=>intro j c;obtain rfl:j=0:=o;rfl
 |succ k ih=>
  intro j c;by_cases h:j<=k;·unfold psF;rw[iP h];exact ih j h
  ·obtain rfl:j=k+1:=o;rfl
def B0x{P:Nat->Rat}{deg k:Nat}{S S':Nat->Rat}(h:∀j,j<k->S j=S' j):∀i,i<=k->psT P deg S k i=psT P deg S' k i:=by
 intro i
 induction i with
 |zero=>intro _;rfl
 |succ i ih=>
  intro c;unfold psT;rw[ih o];by_cases e:i+1=k;·rw[iP e,iP e]
  ·rw[iN e,iN e,h _ o]
def W9(P:Nat->Rat)(deg k:Nat):ps P deg (k+1)=psT P deg (ps P deg) (k+1) (min (k+1) deg):=by show(if k+1<=k then _ else _)=_;rw[iN o];exact B0x (fun j c=>C22 P deg k j o) _ (Nat.min_le_left _ _)
section
variable {h:aH} {K:VP} {A PA:Option aL} {c pc m n deg:Nat} {P:Nat->Rat}
def My{z:Int}(gl:Gl h)(h1: -9223372036854775808<=z)(h2:z<9223372036854775808)(hK:K (.string (bs (F3 (z:Rat)))) h):aO prog 163 #[I z] h K:=by refine(fnk func163) ?_;refine Ei gl.p10 h1 h2 ⟨_,rfl,?_⟩;rw[Yv (by simp)]at hK;simpa using hK
def Rs(gl:Gl h)(x:aM SSr h PA (deg+1) (fun i=>F3 (P i)))(hd1:1<=deg)(hd:deg<=64)(hn1:1<=n)(hn:n<=1000)(sP:∀i,i<=deg->Sz m (P i))(sS:∀k,k<n->Sz m (ps P deg k))(sT:∀k i,k<n->i<=k->i<=deg->Sz m (psT P deg (ps P deg) k i))(hm1:10<=m)(hm:m<=5000000) (hK:∀A' c' h',h.le h'->n<=c'->aM SSr h' A' n (fun k=>F3 (ps P deg k))->K (.slice A' n c') h'):aO prog 115 #[.slice PA (deg+1) pc,I (n:Int)] h K:=by refine(fnk func115 [(4,[6,7],[],[.slice none 0 0,I 0]),(8,[8,9],[],[.string ⟨#[]⟩,I 0])]) ?_;rw[show C4 (((deg+1:Nat):Int)-1)=(deg:Int) by rw[C2]<;>omega];refine My gl o o ⟨_,rfl,?_⟩;refine Lst.lit1 (R:=SSr) (f:=fun k=>F3 (ps P deg k)) I6 (y:=F3 (deg:Rat)) (by rfl) dc rfl fun b T l1 L=>⟨_,_,_,rfl,?_⟩;refine⟨fun L r=>∃(k:Nat) (A':Option aL) (c':Nat),1<=k/\k<=n/\L=[.slice A' k c',I (k:Int)]/\Lst SSr 9 h r A' c' k (fun k=>F3 (ps P deg k)),fun L _=>n-(iAt L 1).toNat,⟨1,_,_,aC _,hn1,rfl,L⟩,?_⟩;rintro V k sc z r ⟨S,A',c',G,Q,l,L⟩;obtain⟨⟨rfl,rfl,rfl⟩,rfl⟩:=sI2 l;refine C1 (fun F=>?_) (fun E=>?_);{have p:k<n:=o;have c:=gl.mono L.le;have g:(if(deg:Int)<(k:Int)then(deg:Int)else(k:Int))=((min k deg:Nat):Int):=by{split<;>omega};rw[g];obtain⟨k,rfl⟩:∃k',k=k'+1:=⟨k-1,o⟩;have row:=L.row E9;refine⟨fun L B=>∃i:Nat,i<=min (k+1) deg/\L=[.string (bs (F3 (psT P deg (ps P deg) (k+1) i))),I ((i+1:Nat):Int)]/\B=r,fun L _=>min (k+1) deg+1-(iAt L 1).toNat,⟨0,o,by rw[t0];rfl,rfl⟩,?_⟩;rintro sum z B ⟨i,X,l,rfl⟩;simp only[aG,aJ,Value.string.injEq,true_and,and_true]at l;obtain⟨rfl,rfl⟩:=l;refine C1 (fun C=>?_) (fun u=>?_);{have H:i<min (k+1) deg:=o;have M:i<=k:=o;have O:i+1<=deg:=o;rw[show C4 (((k+1:Nat):Int)-((i+1:Nat):Int))=((k-i:Nat):Int) by rw[C2]<;>omega,show C4 ((deg:Int)-((i+1:Nat):Int))=((deg-(i+1):Nat):Int) by rw[C2]<;>omega,show C4 (((i+1:Nat):Int)+1)=((i+1+1:Nat):Int) by rw[C2]<;>omega];obtain⟨a,e,c0⟩:=row.sat (show k-i<k+1 from o);obtain⟨D,w,c2⟩:=(x.mono E9 L.le).sat (show deg-(i+1)<deg+1 from o);refine⟨a,e,o,o,_,by rw[aD];exact c0,?_⟩;have j:=sP (deg-(i+1)) o;have A:=sT (k+1) i p o o;refine D5 (fun N=>?_) (fun N=>?_);{have s:i+1=k+1:=o;have t:(((k+1:Nat):Int):Rat)=((k+1:Nat):Rat):=Rat.intCast_natCast _;have d:=(Ih (k:=k+1) o).mono (show 10<=m from o);rw[<- t]at d;refine My c o o ⟨_,rfl,D,w,o,o,_,by rw[aD];exact c2,?_⟩;refine Ey (m:=m) c (Tx.of j o) (Tx.of d o) o ⟨_,rfl,?_⟩;rw[H2,H2];refine A1g (m:=2*m) c (Tx.of (A.mono o) o) (Tx.of ((j.mul d).mono o) o) o ⟨_,rfl,?_⟩;rw[H2,H2];have q:psT P deg (ps P deg) (k+1) (i+1)=psT P deg (ps P deg) (k+1) i-P (deg-(i+1))*(((k+1:Nat):Int):Rat):=by{(conv=>lhs;unfold psT);rw[iP s,t]};rw[<- q];exact⟨⟨i+1,o,rfl,rfl⟩,by simp only[iAt,aR,aP];omega⟩};·have s:¬i+1=k+1:=o;have d:=sS (k-i) o;refine⟨D,w,o,o,_,by rw[aD];exact c2,?_⟩;refine Ey (m:=m) c (Tx.of j o) (Tx.of d o) o ⟨_,rfl,?_⟩;rw[H2,H2];refine A1g (m:=2*m) c (Tx.of (A.mono o) o) (Tx.of ((j.mul d).mono o) o) o ⟨_,rfl,?_⟩;rw[H2,H2];have q:psT P deg (ps P deg) (k+1) (i+1)=psT P deg (ps P deg) (k+1) i-P (deg-(i+1))*ps P deg (k-i):=by{(conv=>lhs;unfold psT);rw[iN s,show k+1-(i+1)=k-i from o]};rw[<- q];exact⟨⟨i+1,o,rfl,rfl⟩,by simp only[iAt,aR,aP];omega⟩};·obtain rfl:i=min (k+1) deg:=o;refine L.push E9 I6 rfl (y:=F3 (ps P deg (k+1))) (by rw[<- W9];rfl) rfl dc o fun A5 c5 W L5=>?_;rw[show C4 (((k+1:Nat):Int)+1)=((k+1+1:Nat):Int) by rw[C2]<;>omega];exact⟨⟨k+1+1,_,_,o,o,rfl,L5⟩,by simp only[iAt,aR,aP];omega⟩};·obtain rfl:k=n:=o;exact hK _ _ _ L.le L.cap (L.row E9)
end
def PrivF.make{n:Nat}{e:bI}{g:aH}{b c:Nat}{z:Yq n}(hb:g b=none):PrivF (B77 e g b (aS c z)) g e (some ⟨b,0,none⟩) c ([]:List (Yq n)):=⟨by simp,by simp,.inr ⟨b,(aS c z).flatMap enc,rfl,hb,rfl,by rw[K6,bY],by simp⟩⟩
def B5b(a b c d e f:Int)(w:QV):(C2r a b c d e f w).length=10/\∀v∈C2r a b c d e f w,Pe v=true:=⟨rfl,by simp[C2r,Pe]⟩
def B5c:([I (0:Int),I (0:Int),I (0:Int),I (0:Int),I (0:Int),I (0:Int),.bool false,.slice none 0 0,.bool false,.slice none 0 0]:List aU).length=10/\∀v∈([I (0:Int),I (0:Int),I (0:Int),I (0:Int),I (0:Int),I (0:Int),.bool false,.slice none 0 0,.bool false,.slice none 0 0]:List aU),Pe v=true:=⟨rfl,by simp[Pe]⟩
section
variable {h:aH} {K:VP} {vars:Int} {ts:List Sa} {A:Option aL} {c:Nat}
def A4t(gl:Gtz h)(pa:PolyAt h A ts)(hl:ts.length<=1000)(hc:∀i,i<ts.length->(tm ts i).1.length<=100000000)(hK1:WfOk vars ts->∀A' n' c',K (.tuple #[.slice A' n' c',.bool true]) h)(hK0:¬WfOk vars ts->K (.tuple #[.slice none 0 0,.bool false]) h):aO prog 258 #[.agg #[I vars,.slice A ts.length c]] h K:=by refine FCall.pure ((fnk func258 [(5,[4,24],[],[.slice none 0 0,I 0])] (own:=[1,6,7])) ?_);have no:∀q,h.le q->¬WfOk vars ts->h.le q/\K (.tuple #[.slice none 0 0,.bool false]) h:=fun q l0 n=>⟨l0,hK0 n⟩;refine C1 (fun h1=>no _ (B7 _) fun o=>by have:=o.lo;omega) (fun h1=>?_);refine C1 (fun X=>no _ (B7 _) fun o=>by have:=o.hi;omega) (fun X=>?_);refine I3 (α:=Yq 10) Yz (zx:=⟨_,B5c⟩) rfl oo oo oo oo fun b hb=>⟨_,_,_,rfl,?_⟩;rw[aD];refine⟨fun l h'=>∃(k:Nat) (A':Option aL) (c':Nat) (f:List (Yq 10)) (g:aH),l=[.slice A' f.length c',I k]/\k<=ts.length/\f.length=k/\(∀j,j<k->C3h vars ts j)/\h.le g/\PrivF h' g 361 A' c' f,fun l _=>ts.length-(iAt l 1).toNat,⟨0,_,_,[],h,rfl,oo,rfl,fun j hj=>oo,B7 _,PrivF.make hb⟩,?_⟩;rintro e p d O t ⟨k,A',c',f,g,M,hk,R,m,hg,pr⟩;obtain⟨⟨rfl,rfl,rfl⟩,rfl⟩:(e=A'/\p=f.length/\d=c')/\O=(k:Int):=by{simpa using M};have r:h.le t:=B0 hg pr.le;refine C1 (fun h3=>?_) (fun h3=>?_);{have hkl:k<ts.length:=oo;obtain⟨a,B,cc,e1,e2,e3,e4⟩:=(pa.mono r) k hkl;refine⟨a,e1,oo,h3,_,_,_,_,by rw[aD];exact e2,by rw[aD];exact e3,?_⟩;refine Zj (gl.mono r) (hc k hkl) e4 oo (fun ok E F G z D C w=>⟨E,F,G,z,D,C,w.s,w.A,w.n,w.c,w.s2,w.A2,w.n2,w.c2,true,rfl,?_⟩) (fun T=>⟨_,_,_,_,_,_,_,_,_,_,_,_,_,_,false,rfl,no _ r fun o=>T (o.all k hkl).1⟩);have next:∀{q:aH},q=t->C3h vars ts k->wpH prog (cF 302 1 #[(0,.agg #[I E,I F,I G,I z,I D,I C,.bool w.s,.slice w.A w.n w.c,.bool w.s2,.slice w.A2 w.n2 w.c2])]) (fun v1 Q=>∃(t57A:Option aL) (t57n:Nat) (t57c:Nat),v1= .slice t57A t57n t57c/\wpH prog (cJ #[302,302] 302 #[.slice e f.length d,.slice t57A t57n t57c]) (fun v2 L=>∃(t58A:Option aL) (t58n:Nat) (t58c:Nat),v2= .slice t58A t58n t58c/\(∃(k2:Nat) (A':Option aL) (c':Nat) (f:List (Yq 10)) (g:aH),[Value.slice t58A t58n t58c,I (C4 ((k:Int)+1))]=[.slice A' f.length c',I k2]/\k2<=ts.length/\f.length=k2/\(∀j,j<k2->C3h vars ts j)/\h.le g/\PrivF L g 361 A' c' f)/\ts.length-(iAt [Value.slice t58A t58n t58c,I (C4 ((k:Int)+1))] 1).toNat<ts.length-(iAt [Value.slice e f.length d,I (k:Int)] 1).toNat) Q) q:=by{rintro _ rfl N;refine B4l Yz pr (y:=⟨C2r E F G z D C w,B5b E F G z D C w⟩) rfl dc oo oo ?_;intro A2 c2 X g2 lg p2;rw[C2 oo oo];refine⟨⟨k+1,A2,c2,_,g2,?_,oo,?_,fun j hj=>?_,B0 hg lg,p2⟩,by simp only[iAt,aR,aP];omega⟩;{rw[bM];rfl};{rw[bM,R];rfl};·by_cases H:j=k;{subst H;exact N};·exact m j oo};refine C1 (fun h4=>?_) (fun h4=>next rfl ⟨ok,fun h0=>oo⟩);have ek:(C4 ((k:Int)-1)).toNat=k-1:=by{rw[C2 oo oo];omega};obtain⟨a',B',ac,W,aa,V,S⟩:=(pa.mono r) (k-1) oo;have u:=(m (k-1) oo).1;refine⟨a',W,by rw[C2 oo oo];omega,by rw[C2 oo oo];omega,_,_,_,by rw[ek];exact V,?_⟩;refine Ug (by have e5:=u.len;have e6:((tm ts k).2.length:Int)=vars:=ok.len;omega) (u.exb oo) (ok.exb oo) S e4 ⟨_,rfl,B7 _,?_⟩;refine C1 (fun h5=>no _ r fun o=>?_) (fun h5=>next rfl ⟨ok,fun _=>oo⟩);have:=(o.all k hkl).2 oo;omega};·have hkl:k=ts.length:=oo;subst hkl;exact⟨r,hK1 ⟨oo,oo,m⟩ _ _ _⟩
def A25(gl:Gtz h)(pa:PolyAt h A ts)(hl:ts.length<=1000)(hc:∀i,i<ts.length->(tm ts i).1.length<=100000000)(hK1:B36 vars ts->K (.bool true) h)(hK0:¬B36 vars ts->K (.bool false) h):aO prog 159 #[.agg #[I vars,.slice A ts.length c]] h K:=by refine(fnk func159 (own:=[1])) ?_;refine(fnk func210 (own:=[1])) ?_;refine C1 (fun p=>oo) (fun _=>?_);refine A4t gl pa hl hc (fun ok A' l n=>⟨_,_,_,_,rfl,?_⟩) (fun e=>⟨_,_,_,_,rfl,_,_,_,_,rfl,hK0 fun o=>e o.1⟩);refine C1 (fun j=>?_) (fun j=>⟨_,_,_,_,rfl,hK1 ⟨ok,fun q=>oo⟩⟩);obtain⟨a,B,m,f,r,g,k⟩:=pa 0 oo;refine⟨a,f,oo,oo,_,_,_,g,?_⟩;refine Dq k ⟨_,rfl,Br.not (Br.of (fun d=>⟨_,_,_,_,rfl,hK1 ⟨ok,fun _=>d⟩⟩) (fun d=>⟨_,_,_,_,rfl,hK0 fun o=>?_⟩))⟩;have:=o.2 oo;rw[this]at d;cases d
end
def C5m(v D:Nat):Bool:=(bL (mo v D).length).all fun k=>decide (A0i (mon v D k)<=D)&&K0 (mon v D k)&&Am (mon v D k) (aS v 0)&&decide (opL (fun x y=>x+y) (mon v D k) (aS v 0)=mon v D k)&&(mon v D k).all fun x=>decide (0<=x/\x<=1048576)
def B4s:∀v:Fin 3,∀D:Fin 7,1<=v.val->C5m v D=true:=by decide +kernel
structure Mz (v D k:Nat):Prop where
 deg:A0i (mon v D k)<=D
 val:K0 (mon v D k)=true
 pair:Am (mon v D k) (aS v 0)=true
 eq:opL (fun x y=>x+y) (mon v D k) (aS v 0)=mon v D k
 bnd:∀ x∈mon v D k,0<=x/\x<=1048576
def mz{v D k:Nat}(h1:1<=v)(h2:v<=2)(hD:D<=6)(hk:k<(mo v D).length):Mz v D k:=by have:=B4s ⟨v,o⟩ ⟨D,o⟩ h1;simp only[C5m,Bool.and_eq_true,decide_eq_true_eq,bW,List.mem_range]at this;obtain⟨⟨⟨⟨a,b⟩,c⟩,d⟩,e⟩:=this k hk;exact⟨a,b,c,d,e⟩
section
variable {h:aH} {K:VP} {A T PA ZA:Option aL} {c tc pc zc m v D k:Nat} {V:Nat->Rat}
def A5c{a:aL}{B:Option aL}{bc:Nat}(gl:Gl h)(f:FnV h A v D m V)(s:MoSl h T (mo v D))(hk:k<(mo v D).length)(eP:PA=some a)(c0:h.cell? (aF (aF a (0*2)) 0)=some (.string (bs (F3 1))))(c1:h.cell? (aF (aF a (0*2)) 1)=some (.slice B (mon v D k).length bc))(sB:SlI .i64 h B (mon v D k))(sZ:SlI .i64 h ZA (aS v 0)){p0:Int} (hK:K (.string (bs (F3 (V k)))) h):aO prog 162 #[.agg #[.slice T (mo v D).length tc,.slice A (mo v D).length c],.agg #[I p0,.slice PA 1 pc],.slice ZA v zc] h K:=by have C:=f.sm;refine FCall.pure ((fnk func162 [(3,[7,15],[],[.string ⟨#[]⟩,I 0])] (own:=[3,4,9])) ?_);have Z:=mz f.v1 f.v2 f.d6 hk;refine⟨fun L g=>∃j:Nat,j<=1/\L=[.string (bs (F3 (if j=0 then 0 else V k))),I (j:Int)]/\h.le g,fun L _=>1-(iAt L 1).toNat,⟨0,o,by rfl,B7 _⟩,?_⟩;rintro u z g ⟨j,E,y,e⟩;obtain⟨rfl,rfl⟩:=y;refine C1 (fun r=>?_) (fun n=>?_);{obtain rfl:j=0:=o;refine⟨a,eP,o,o,_,_,_,_,C0 e c0,C0 e c1,?_⟩;have sz:=sZ.mono e;have l:=f.sz k hk;have key:∀K':VP,(∀B' i,g.le i->SlI .i64 i B' (mon v D k)->K' (.tuple #[.slice B' (mon v D k).length (mon v D k).length,.bool true]) i)->aO prog 173 #[.slice B (mon v D k).length bc,.slice ZA v zc] g K':=fun K' p=>by{have:=Xv (K:=K') (ac:=bc) (bc:=zc) (sB.mono e) sz (fun no=>by rw[Z.eq,Z.pair,Z.val]at no;cases no) (fun _ B' i F q=>by rw[Z.eq]at q ⊢;grind);grind};refine key _ fun B' G t w=>⟨_,_,_,_,rfl,?_⟩;have d:=B0 e t;refine A2k (f.mono d) (s.mono d) hk w ⟨_,rfl,B7 _,?_⟩;refine Ey (m:=m+1) (gl.mono d) (Tx.of (m:=m+1) ⟨ZB.one o,ZB.one o⟩ o) (Tx.of (l.mono o) o) o ⟨_,rfl,B7 _,?_⟩;rw[H2,H2,aZ,iP rfl];refine Nb (m:=m+1) (gl.mono d) (Tx.of (Sz.zero o) o) (Tx.of (l.mono o) o) o ⟨_,rfl,B7 _,?_⟩;rw[H2,H2,cN];exact⟨⟨1,o,rfl,d⟩,by show 1-(C4 (((0:Nat):Int)+1)).toNat<1-(((0:Nat):Int)).toNat;decide⟩};grind
def Zx{a:aL}{B:Option aL}{bc:Nat}(gl:Gl h)(f:FnV h A v D m V)(hk:k<(mo v D).length)(eP:PA=some a)(c0:h.cell? (aF (aF a (0*2)) 0)=some (.string (bs (F3 1))))(c1:h.cell? (aF (aF a (0*2)) 1)=some (.slice B (mon v D k).length bc))(sB:SlI .i64 h B (mon v D k)) (hK:K (.tuple #[.string (bs (F3 (V k))),I 0]) h):aO prog 114 #[.agg #[I (v:Int),I (D:Int),.slice A (mo v D).length c],.agg #[I ((mon v D k).length:Int),.slice PA 1 pc]] h K:=by have z:=f.v1;have y:=f.v2;have C:=f.d6;have Z:=mz z y C hk;have E:(mon v D k).length=v:=((O9 z y C).val k hk).2.1;have H:PolyAt h PA [(F3 1,mon v D k)]:=fun i M=>by{grind};have w:B36 ((mon v D k).length:Int) [(F3 1,mon v D k)]:=by{refine⟨⟨o,o,fun j N=>?_⟩,fun _=>Z.val⟩;obtain rfl:j=0:=gz0;exact⟨⟨⟨1,rfl,dc⟩,rfl,Z.bnd⟩,fun h=>absurd h o⟩};refine FCall.pure ((fnk func114 (os:=[(5,[0,2,3,1,4]),(7,[0,2,3,4,1,5,6,7,8])]) (al:=[(7,[(1,[5])])]) (own:=[2,3])) ?_);refine Dr gl f ⟨_,rfl,Br.nt ?_⟩;have val:∀K':VP,K' (.bool true) h->aO prog 159 #[.agg #[I ((mon v D k).length:Int),.slice PA 1 pc]] h K':=fun K' t=>A25 (ts:=[(F3 1,mon v D k)]) gl.tz H (by simp) (fun i M=>by obtain rfl:i=0:=gz0;exact(Tx.of (m:=1) (q:=1) ⟨ZB.one o,ZB.one o⟩ o).len) (fun _=>t) (fun no=>absurd w no);refine val _ ⟨_,rfl,Br.nt (E6 (fun e=>absurd (by rw[E]) e) (fun _=>?_))⟩;refine(fnk func160 (own:=[1])) ?_;refine D5 (fun e=>o) (fun _=>val _ ⟨_,rfl,Br.nt ⟨a,eP,o,o,_,_,_,c1,Oa sB ⟨_,rfl,_,rfl,B7 _,C1 (fun e=>absurd Z.deg o) (fun _=>?_)⟩⟩⟩);have p:∀{hp:aH} {K':VP},h.le hp->(∀b h',hp.le h'->SlI .i64 h' (some ⟨b,0,none⟩) (aS v 0)->K' (.slice (some ⟨b,0,none⟩) v v) h')->wpH prog (Instr.makeSlice 22 (I (v:Int)) (I (v:Int))) K' hp:=fun {hp K'} l kk=>by{refine Cy Gf o o o o fun b L=>?_;refine kk b _ (Heap.le_put _ L) ?_;rw[show(Value.int .i64 0).cells=#[.int .i64 0]from rfl,T5,<- List.map_replicate];exact SlI.new _ _ _ _ _};have n:∀{hp:aH} {T ZA:Option aL} {r zc:Nat} {K':VP},h.le hp->MoSl hp T (mo v D)->SlI .i64 hp ZA (aS v 0)->K' (.string (bs (F3 (V k)))) hp->aO prog 162 #[.agg #[.slice T (mo v D).length r,.slice A (mo v D).length c],.agg #[I ((mon v D k).length:Int),.slice PA 1 pc],.slice ZA v zc] hp K':=fun {hp T ZA r zc K'} l s sz kk=>A5c (gl.mono l) (f.mono l) s hk eP (C0 l c0) (C0 l c1) (sB.mono l) sz kk;refine⟨?_,?_⟩;{refine Cx f fun T r G d u=>⟨_,_,_,_,_,_,rfl,d,?_⟩;refine p d fun b F g sz=>⟨_,_,_,rfl,g,?_⟩;exact n (B0 d g) (u.mono g) sz ⟨_,rfl,B7 _,B0 d g,hK⟩};·refine p (B7 _) fun b F g sz=>⟨_,_,_,rfl,g,?_⟩;refine Cx (f.mono g) fun T r G d u=>⟨_,_,_,_,_,_,rfl,d,?_⟩;exact n (B0 g d) u (sz.mono d) ⟨_,rfl,B7 _,B0 g d,hK⟩
end
section
variable {α β α2 β2:Type} [E:Enc α] [E2:Enc α2] {R:aH->α->β->Prop} {e e2:bI} {h0 hp:aH} {A A2:Option aL} {c n c2 n2:Nat} {f:Nat->β} {R2:aH->α2->β2->Prop} {f2:Nat->β2}
def Lst2.of(l:Lst R2 e2 h0 hp A2 c2 n2 f2):Lst2 R e R2 e2 h0 hp none 0 0 f A2 c2 n2 f2:=by obtain⟨g,o,c,i,s,w,d,r⟩:=l;exact⟨g,o,[],c,i,s,OwnSl.nil,w,fun _ x=>by(cases x),rfl,d,Row.nil,r⟩
def Lst2.row2(m:Mon R2)(l:Lst2 R e R2 e2 h0 hp A c n f A2 c2 n2 f2):aM R2 hp A2 n2 f2:=l.swap.row m
def Lst2.set(m2:Mon R2){P:cD}{t:bI}(one:P.cellsOf t=E2.default.size/\(P.info? t).isSome=true)(l:Lst2 R e R2 e2 h0 hp A c n f A2 c2 n2 f2){b k:Nat}(hA:A2=some ⟨b,0,none⟩)(hk:k<n2){v:aU}{y:α2}(hv:v.cells=(enc y).toArray){z:β2}(hR:R2 h0 y z){K:Unit->aH->Prop} (x:∀h',Lst2 R e R2 e2 h0 h' A c n f A2 c2 n2 (fun i=>if i=k then z else f2 i)->K () h'):wpH P (bD t (.pointer (some (aF ⟨b,0,none⟩ (k*E2.default.size)))) v) K hp:=by obtain⟨g,o,B,L,d,s,w,C,D,G,E,r,j⟩:=l;refine OwnSl.store one hv s C oo hA fun h' F m p H=>x h' ⟨g,F,B,_,d,m,w.keep fun N u q M=>?_,p,D,G,gz0,r,j.upd oo (m2 _ _ _ _ d hR)⟩;grind
def Lst2.app(m:Mon R)(m2:Mon R2){P:cD}{t ty:bI}{z:aU}{bytes k j:Nat}(st:SliceT P t e z E.default.size bytes)(l:Lst2 R e R2 e2 h0 hp A c n f A2 c2 n2 f2)(hk:k=n){B:Option aL}{d:Nat}{g:Nat->β}(row:aM R h0 B j g)(hj:1<=j)(hg:∀i,i<j->f (n+i)=g i)(hsz:bytes<=1000)(hb:n+j<=1000000){K:VP} (x:∀A' c' h',Lst2 R e R2 e2 h0 h' A' c' (n+j) f A2 c2 n2 f2->K (.slice A' (n+j) c') h'): wpH P (cJ #[t,t] ty #[.slice A k c,.slice B j d]) K hp:=by subst hk;obtain⟨gg,o,xs,ys,D,s,w,M,ap,G,F,r,r2⟩:=l;obtain⟨us,Q,H,ru⟩:=row;refine OwnSl.app (ty:=ty) st s w G.symm H.symm (fun q=>gz0) (Q.mono (B0 D s.le)) (by rw[G,H];exact bG (aK (show 2*(k+j)+192<=3000000 from oo) hsz) dc) oo ?_;intro A' c' h' W X p N S O;rw[G];have L:∀b,A2=some ⟨b,0,none⟩->∃x,o b=some x:=fun b q=>by{rcases M.2 with⟨_,C⟩|⟨b',aa,C,q3,_⟩;{grind};grind};refine x A' c' h' ⟨W,X,_,ys,B0 D p,N,S,M.keep fun b x q V=>(O b x V fun C=>ap b C q).1,fun b q C=>?_,gz0,F,fun i hi=>?_,r2.mono m2 p⟩;{grind};·by_cases T:i<k;{obtain⟨u,e1,y⟩:=r i T;exact⟨u,gz0,m _ _ _ _ p y⟩};·obtain⟨i,rfl⟩:∃j0,i=k+j0:=⟨i-k,oo⟩;obtain⟨u,e1,y⟩:=ru i oo;exact⟨u,gz0,by rw[hg i oo];exact m _ _ _ _ (B0 D p) y⟩
end
def OwnK.vis{α β:Type}[E:Enc α]{R:aH->α->β->Prop}(m:Mon R){h hp:aH}{b n k b2:Nat}{f:Nat->β}(w:OwnK R h hp b n k f)(hb:hp b2=none)(x:Obj):OwnK R h (hp.put b2 x) b n k f:=by
 obtain⟨g,o,e,i,s,d,j,l⟩:=w
 have c:g b2=none:=by
  cases q:g b2 with
  |none=>rfl
  |some u=>rw[s.le _ _ q]at hb;cases hb
 exact⟨_,o,e,B0 i (Heap.le_put _ c),s.vis hb x,d,j,l.mono m (Heap.le_put _ c)⟩
def A8d{h:aH}{N:Nat}{K:VP}{b0:Nat}(hb0:h b0=none)(hN:1<=N)(hl:N<=1000000)(hK:∀b h',Lst SSr 9 h h' (some ⟨b,0,none⟩) N N (fun _=>F3 0)->K (.slice (some ⟨b,0,none⟩) N N) h'): aO prog 116 #[.slice (some ⟨b0,0,none⟩) 1 1,I (N:Int)] (h.put b0 (.cells #[.string ({data:=#[48] }:ByteArray)] 9)) K:=by refine Rg (SlV.new _ _ _ _ _ _ (fun i v c=>by simpa using c)) hN hl fun b h' d s e=>hK b h' ⟨_,d,aS N (F3 0),Heap.le_put _ hb0,s,⟨by simp,.inr ⟨b,_,rfl,e,by rw[bY];exact(bZ _).symm,?_⟩⟩,by simp,fun i f=>⟨_,gz0,rfl⟩⟩;rw[bY,Zi,<- t0];exact List.take_of_length_le (by simp;exact Nat.le_of_eq (bZ _).symm)
def rgS(V:Nat->Rat)(v d:Nat)(M:Nat->Nat->Rat)(i n:Nat):Rat:=sm n fun j=>V ((pvL V v d).getD j 0)*kpw M (rkM V v d) i j
def rgt(V:Nat->Rat)(v d:Nat)(M:Nat->Nat->Rat)(i:Nat):Rat:=rgS V v d M i (rkM V v d)
def hkl(P:Nat->Rat)(deg:Nat):Nat->Nat->Rat:=fun i k=>ps P deg (i+k)
def wgX(V:Nat->Rat)(v d:Nat)(M:Nat->Nat->Rat)(P:Nat->Rat)(deg:Nat):Nat->Rat:=Hi (fl (hkl P deg) (rkM V v d)) (rgt V v d M) (rkM V v d) (rkM V v d)
section
variable {h:aH} {K:VP} {A BA IA KA PA:Option aL} {c bc ic kc pc m mq v d D deg:Nat} {V P:Nat->Rat} {M:Nat->Nat->Rat}
def A75{i:Nat}(q:Quo h A BA IA v D m d V)(hi:i<nM v d):mon v d i=mon v D i/\i<(mo v D).length:=by have e:=O2 q.fn.v1 q.fn.v2 (show d<=3 by have:=q.d2;omega) q.fn.d6 (show 2*d<=D by have:=q.dD;omega) hi hi;refine⟨e.same,?_⟩;have:nM v d<=(mo v D).length:=by{have c:d<=D:=by{have:=q.dD;omega};have f:∀v:Fin 3,∀d:Fin 3,∀D:Fin 7,d.val<=D.val->nM v d<=(mo v D).length:=by{decide +kernel};exact f ⟨v,by have:=q.fn.v2;omega⟩ ⟨d,by have:=q.d2;omega⟩ ⟨D,by have:=q.fn.d6;omega⟩ c};omega
def A0a(gl:Gl h)(q:Quo h A BA IA v D m d V)(hq1:1<=mq)(hq:mq<=1000000)(hmq:15<=mq) (x:aM (MVr (rkM V v d)) h KA (rkM V v d+1) (kpw M (rkM V v d))) (hs:∀k,k<=rkM V v d->∀i,i<rkM V v d->Sz mq (kpw M (rkM V v d) k i)) (sb:SB (rkM V v d) mq) (xp:aM SSr h PA (deg+1) (fun i=>F3 (P i))) (hd1:1<=deg) (hd:deg<=64) (sP:∀i,i<=deg->Sz mq (P i)) (sS:∀k,k<2*rkM V v d-1->Sz mq (ps P deg k)) (sT:∀k i,k<2*rkM V v d-1->i<=k->i<=deg->Sz mq (psT P deg (ps P deg) k i)) (sR:∀i n,i<rkM V v d->n<=rkM V v d->Sz mq (rgS V v d M i n)) (ok:S0 (fl (hkl P deg) (rkM V v d)) (rgt V v d M) (rkM V v d) (rkM V v d)) (hx:∀i,i<rkM V v d->Sz 10000000 (wgX V v d M P deg i)) (hK:∀A' c' h',h.le h'->aM SSr h' A' (trN (wgX V v d M P deg) (rkM V v d)) (fun i=>F3 (wgX V v d M P deg i))->K (.tuple #[.slice A' (trN (wgX V v d M P deg) (rkM V v d)) c',I 0]) h'): aO prog 64 #[B9z A BA IA c bc ic v D (rkM V v d),.agg #[.slice KA (rkM V v d+1) kc],.slice PA (deg+1) pc] h K:=by have r1:=q.r1;have r6:=q.r6;have ao:rkM V v d*rkM V v d<=6*6:=aK r6 r6;refine(fnk func64 [(4,[31],[],[I 0]),(16,[68],[(15,3)],[I 0,I 0,I 0,.slice none 0 0]),(20,[83],[],[I 0])] (own:=[3,4,13,15]) (wr:=[1000000000])) ?_;refine I3 I6 (zx:=([]:List UInt8)) rfl oo oo oo oo fun b hb=>⟨_,_,_,rfl,?_⟩;refine⟨fun L H=>∃k:Nat,k<=rkM V v d/\L=[I k]/\OwnK SSr h H b (rkM V v d) k (fun i=>F3 (V ((pvL V v d).getD i 0))),fun L _=>rkM V v d-(iAt L 0).toNat,⟨0,oo,rfl,OwnK.zero hb⟩,?_⟩;rintro z H ⟨k,hk,eL,w⟩;obtain rfl:z=(k:Int):=gz0;refine C1 (fun af=>?_) (fun ah=>?_);{have E:k<rkM V v d:=oo;obtain⟨ab,B,b2,e,c0,s0⟩:=q.bd.mi E;have ai:=Y8 V v d E;obtain⟨m1,m2⟩:=A75 q ai;have eb:bdr V v d k=mon v D ((pvL V v d).getD k 0):=m1;rw[eb]at c0 s0;refine⟨ab,e,oo,oo,_,_,_,by exact C0 w.le c0,?_⟩;refine T7 C0d (vs:=[.agg #[.string ({data:=#[49] }:ByteArray),.slice B (mon v D ((pvL V v d).getD k 0)).length b2]]) (fun u hu=>by rw[List.mem_singleton.1 hu];rfl) rfl (by simp) rfl fun b4 aj=>⟨_,_,_,rfl,?_⟩;have w4:=w.vis E9 aj (.cells (([.agg #[.string ({data:=#[49] }:ByteArray),.slice B (mon v D ((pvL V v d).getD k 0)).length b2]]:List aU).flatMap fun v=>v.cells.toList).toArray 175);have l4:=w4.le;refine Zx (bc:=b2) (gl.mono l4) (q.fn.mono l4) m2 rfl ?_ ?_ (s0.mono l4) ⟨_,_,rfl,_,rfl,oo,oo,?_⟩;{rw[bC,D6,D6,D8,t1];rfl};{rw[bC,D6,D6,D8];rfl};refine w4.fill E9 N5 (y:=F3 (V ((pvL V v d).getD k 0))) E (by rfl) rfl fun h5 w5=>E6 (fun e=>absurd rfl e) (fun _=>?_);rw[wiS k oo];exact⟨⟨k+1,oo,rfl,w5⟩,by simp only[O8];omega⟩};·obtain rfl:k=rkM V v d:=oo;have lw:=w.le;have rowV:=w.own.vis E9;rw[show C4 (C4 (2*(rkM V v d:Int))-1)=((2*rkM V v d-1:Nat):Int) by rw[C2 (n:=2*(rkM V v d:Int)) oo oo,C2]<;>omega];refine Rs (gl.mono lw) (xp.mono E9 lw) hd1 hd oo oo sP sS sT oo oo fun SA sc C l2 ad N=>⟨_,_,_,rfl,?_⟩;refine V6 I6 rfl fun b0 ag=>⟨_,_,_,rfl,?_⟩;refine A8d ag r1 oo fun br h3 L0=>⟨_,_,_,rfl,?_⟩;generalize hG:R9 (hkl P deg) (rkM V v d)=G;have W:∀i k,k<rkM V v d->G (i*rkM V v d+k)=F3 (hkl P deg i k):=fun i k hk=>by{obtain⟨a1,a2⟩:=dm1 (i:=i) hk;rw[<- hG];unfold R9;grind};refine⟨fun L H=>∃(i:Nat) (A':Option aL) (c':Nat),i<=rkM V v d/\L=[I (i:Int),I (rkM V v d:Int),I (rkM V v d:Int),.slice A' (i*rkM V v d) c']/\Lst2 SSr 9 SSr 9 C H A' c' (i*rkM V v d) G (some ⟨br,0,none⟩) (rkM V v d) (rkM V v d) (fun t=>F3 (if t<i then rgt V v d M t else 0)),fun L _=>rkM V v d-(iAt L 0).toNat,⟨0,none,0,oo,gz0,by rw[bC];exact Lst2.of L0⟩,?_⟩;rintro z m0 m1 mA mn mc H ⟨i,A',c',hi,eL,L⟩;obtain⟨rfl,rfl,rfl,rfl,rfl,rfl⟩:=eL;have X:=B0 lw l2;refine C1 (fun af=>?_) (fun ah=>?_);{have r:i<rkM V v d:=oo;have ae:(i+1)*rkM V v d=i*rkM V v d+rkM V v d:=gz0;have am:(i+1)*rkM V v d<=rkM V v d*rkM V v d:=aE _ r;rw[show C4 ((i:Int)+(rkM V v d:Int))=((i+rkM V v d:Nat):Int) by rw[C2]<;>omega];refine⟨⟨oo,oo⟩,⟨oo,oo⟩,?_⟩;simp only[aD];rw[show i+rkM V v d-i=rkM V v d from oo];refine Lst2.app E9 E9 I6 L rfl (N.cut (l:=i) (k:=rkM V v d) oo ad) r1 (fun t ht=>?_) dc oo fun A5 c5 h5 L5=>⟨_,_,_,rfl,?_⟩;{rw[W i t ht];rfl};refine⟨fun L hx=>∃(j:Nat),j<=rkM V v d/\L=[I (j:Int)]/\Lst2 SSr 9 SSr 9 C hx A5 c5 (i*rkM V v d+rkM V v d) G (some ⟨br,0,none⟩) (rkM V v d) (rkM V v d) (fun t=>F3 (if t<i then rgt V v d M t else if t=i then rgS V v d M i j else 0)),fun L _=>rkM V v d-(iAt L 0).toNat,⟨0,oo,rfl,?_⟩,?_⟩;{obtain⟨g,o,T,ys,S,s,w1,w2,ap,hn,f,R,rb⟩:=L5;refine⟨g,o,T,ys,S,s,w1,w2,ap,hn,f,R,rb.congr fun t _=>?_⟩;by_cases h1:t<i;{grind};·by_cases C:t=i;{rw[iP C];rfl};grind};rintro z hx ⟨j,hj,eL,L6⟩;obtain rfl:z=(j:Int):=gz0;refine C1 (fun al=>?_) (fun ak=>?_);{have p:j<rkM V v d:=oo;have Q:=L6.le;have F:=B0 X Q;obtain⟨a1,e1,c1⟩:=(rowV.mono E9 (B0 l2 Q)).sat p;obtain⟨a2,e2,c2⟩:=(L6.row2 E9).sat r;obtain⟨a3,B3,an,e3,_,_,c3,ac⟩:=(x.mono (Uh _) F).mv (show i<rkM V v d+1 from oo);obtain⟨a4,e4,c4⟩:=ac.sat p;rw[iN (Nat.lt_irrefl i),iP rfl]at c2;refine⟨a1,e1,oo,oo,_,by exact c1,a2,e2,oo,oo,_,c2,a3,e3,oo,oo,_,_,_,c3,a4,e4,oo,oo,_,by exact c4,?_⟩;have sv:=(q.fn.sz _ (A75 q (Y8 V v d p)).2).mono (show m<=mq by have:=q.m15;omega);have sk:=hs i oo j p;refine Ey (m:=mq) (gl.mono F) (Tx.of sv oo) (Tx.of sk oo) oo ⟨_,rfl,B7 _,?_⟩;rw[H2,H2];refine Nb (m:=2*mq) (gl.mono F) (Tx.of ((sR i j r oo).mono oo) oo) (Tx.of ((sv.mul sk).mono oo) oo) oo ⟨_,rfl,B7 _,_,rfl,oo,oo,?_⟩;rw[H2,H2];refine L6.set E9 N5 rfl r (y:=F3 (rgS V v d M i (j+1))) (by rfl) rfl fun h7 L7=>?_;rw[wiS j oo];refine⟨⟨j+1,oo,rfl,?_⟩,by simp only[O8];omega⟩;obtain⟨g,o,T,ys,S,s,w1,w2,ap,hn,f,R,rb⟩:=L7;refine⟨g,o,T,ys,S,s,w1,w2,ap,hn,f,R,rb.congr fun t _=>?_⟩;by_cases h1:t<i;{rw[iN oo,iP h1,iP h1]};·by_cases C:t=i;{grind};grind};·obtain rfl:j=rkM V v d:=oo;rw[wiS i oo];rw[<- ae]at L6 ⊢;refine⟨⟨i+1,_,_,oo,rfl,?_⟩,by simp only[O8];omega⟩;obtain⟨g,o,T,ys,S,s,w1,w2,ap,hn,f,R,rb⟩:=L6;refine⟨g,o,T,ys,S,s,w1,w2,ap,hn,f,R,rb.congr fun t _=>?_⟩;by_cases h1:t<i;{grind};·rw[iN h1];by_cases C:t=i;{rw[iP C,iP oo,C];rfl};grind};·obtain rfl:i=rkM V v d:=oo;have O:=B0 X L.le;have y:FM H mA (rkM V v d) (rkM V v d) mq (hkl P deg):=⟨r1,oo,r1,oo,by rw[hG];exact L.row E9,fun i j hi hj=>sS (i+j) oo⟩;have rr:aM SSr H (some ⟨br,0,none⟩) (rkM V v d) (fun t=>F3 (rgt V v d M t)):=(L.row2 E9).congr fun t ht=>by{grind};refine Im (gl.mono O) y rr (fun i hi=>sR i _ hi (aC _)) ok hq1 ⟨(sb _ (aC _)).1,(sb _ (aC _)).1,(sb _ (aC _)).2,(sb _ (aC _)).2⟩ fun A5 c5 B5 n5 d5 h5 l5 q5=>⟨_,_,_,_,_,_,_,rfl,E6 (fun e=>absurd rfl e) (fun _=>?_)⟩;have aa:=B0 O l5;exact St (m:=10000000) (gl.mono aa) q5 oo hx oo fun A6 c6 h6 l6 r6=>⟨_,_,_,_,rfl,hK _ _ _ (B0 aa l6) r6⟩
end
structure XOk (V:Nat->Rat) (v d N mq:Nat):Prop where
 n9:N<=999
 q1:15<=mq
 q2:mq<=1000000
 sb:SB (rkM V v d) mq
 kb:∀ k,k<=N->KB V (frm k) v d mq
 ku:∀ j,j<v->∀ i k,i<rkM V v d->k<rkM V v d->Sz mq (Wb V (uni j) v d i k)/\Sz mq (fmM V (uni j) v d i 0)
 no:∀ k,k<N->Bg (fmM V (frm k) v d) (rkM V v d)≠rkM V v d
 yes:Bg (fmM V (frm N) v d) (rkM V v d)=rkM V v d
 min:S0 (fl (Dj (kpw (fmM V (frm N) v d) (rkM V v d))) (rkM V v d)) (kpw (fmM V (frm N) v d) (rkM V v d) (rkM V v d)) (rkM V v d) (rkM V v d)
 minS:∀ i,i<rkM V v d->Sz 10000000 (A0x (fmM V (frm N) v d) (rkM V v d) i)
 coo:∀ j,j<v->S0 (fl (Dj (kpw (fmM V (frm N) v d) (rkM V v d))) (rkM V v d)) (fun i=>fmM V (uni j) v d i 0) (rkM V v d) (rkM V v d)
 cooS:∀ j,j<v->∀ i,i<rkM V v d->Sz 10000000 (Yf V v d (fmM V (frm N) v d) j i)
 sP:∀ i,i<=rkM V v d->Sz mq (An (fmM V (frm N) v d) (rkM V v d) i)
 sS:∀ k,k<2*rkM V v d-1->Sz mq (ps (An (fmM V (frm N) v d) (rkM V v d)) (rkM V v d) k)
 sT:∀ k i,k<2*rkM V v d-1->i<=k->i<=rkM V v d->Sz mq (psT (An (fmM V (frm N) v d) (rkM V v d)) (rkM V v d) (ps (An (fmM V (frm N) v d) (rkM V v d)) (rkM V v d)) k i)
 sR:∀ i n,i<rkM V v d->n<=rkM V v d->Sz mq (rgS V v d (fmM V (frm N) v d) i n)
 wok:S0 (fl (hkl (An (fmM V (frm N) v d) (rkM V v d)) (rkM V v d)) (rkM V v d)) (rgt V v d (fmM V (frm N) v d)) (rkM V v d) (rkM V v d)
 wS:∀ i,i<rkM V v d->Sz 10000000 (wgX V v d (fmM V (frm N) v d) (An (fmM V (frm N) v d) (rkM V v d)) (rkM V v d) i)
def TXr:aH->HV->Nat×(Nat->Rat)->Prop:=fun h w x=>w.n=x.1/\aM SSr h w.A x.1 (fun i=>F3 (x.2 i))
def Px:Mon TXr:=fun _ _ _ _ l i=>⟨i.1,i.2.mono E9 l⟩
def C3g(V:Nat->Rat)(v d N:Nat)(j:Nat):Nat×(Nat->Rat):=(trN (Yf V v d (fmM V (frm N) v d) j) (rkM V v d),Yf V v d (fmM V (frm N) v d) j)
structure XtV (h:aH) (V:Nat->Rat) (v d N:Nat) (FA MA CA WA:Option aL):Prop where
 form:aM SSr h FA v (fun i=>F3 (frm N i))
 min:aM SSr h MA (rkM V v d+1) (fun i=>F3 (An (fmM V (frm N) v d) (rkM V v d) i))
 coo:aM TXr h CA v (C3g V v d N)
 wgt:aM SSr h WA (trN (wgX V v d (fmM V (frm N) v d) (An (fmM V (frm N) v d) (rkM V v d)) (rkM V v d)) (rkM V v d)) (fun i=>F3 (wgX V v d (fmM V (frm N) v d) (An (fmM V (frm N) v d) (rkM V v d)) (rkM V v d) i))
def xt0:aU:=.agg #[.slice none 0 0,.slice none 0 0,.slice none 0 0,.slice none 0 0]
section
variable {h:aH} {K:VP} {A:Option aL} {c m mq v d D N:Nat} {V:Nat->Rat}
def Ek(gl:Gl h)(f:FnV h A v D m V)(hm1:1<=m)(hm:m<=15)(hd3:d<=3) (h3:d<1\/D<2*d->∀h',h.le h'->K (.tuple #[xt0,I 3]) h') (h11:1<=d->2*d<=D->¬(rkM V v d=rkM V v (d-1)/\1<=rkM V v d/\psd V v d)->∀h',h.le h'->K (.tuple #[xt0,I 11]) h') (hok:∀d',d=d'+1->2*d<=D->rkM V v d=rkM V v d'->1<=rkM V v d'->psd V v d->∃N mq,XOk V v d' N mq/\∀FA fc MA mc CA cc WA wc h',h.le h'->XtV h' V v d' N FA MA CA WA->K (.tuple #[.agg #[.slice FA v fc,.slice MA (rkM V v d'+1) mc,.slice CA v cc,.slice WA (trN (wgX V v d' (fmM V (frm N) v d') (An (fmM V (frm N) v d') (rkM V v d')) (rkM V v d')) (rkM V v d')) wc],I 0]) h'): aO prog 13 #[.agg #[I (v:Int),I (D:Int),.slice A (mo v D).length c],I (d:Int)] h K:=by have v2:=f.v2;refine(fnk func13 [(12,[50],[(4,4),(10,4)],[I 0,.slice none 0 0,.slice none 0 0,.slice none 0 0,.slice none 0 0,.slice none 0 0,.slice none 0 0,.slice none 0 0,.slice none 0 0])] (os:=[(1,[0,1,2,8,3,4,5,6,7,9,10])]) (own:=[2,4,6,9,10])) ?_;refine Kl o fun b h1 own=>⟨_,_,_,rfl,own.le,?_⟩;have C:=own.le;refine Ej (F:=fun _=>0) (m2:=1) (gl.mono C) (f.mono C) hm1 hm hd3 (own.vis E9) (fun _ _=>Sz.zero o) o (fun e=>⟨_,_,_,_,_,_,_,_,_,_,_,_,_,_,rfl,B7 _,E6 (fun _=>h3 o _ C) (fun e=>o)⟩) (fun e1 e2 _ no=>⟨_,_,_,_,_,_,_,_,_,_,_,_,_,_,rfl,B7 _,E6 (fun _=>h11 e1 e2 (fun x=>no ⟨x.1,x.2.1,fun _=>x.2.2⟩) _ C) (fun e=>o)⟩) ?_;intro d' ed hD _ s l R BA bc IA ic h2 l2 rb ri;obtain⟨N,mq,X,kk⟩:=hok d' ed hD s l (R rfl);refine⟨_,_,_,_,_,_,_,_,_,_,_,_,_,_,rfl,l2,E6 (fun e=>absurd rfl e) (fun _=>?_)⟩;have r:=B0 C l2;have q:Quo h2 A BA IA v D m d' V:=⟨f.mono r,o,o,l,hm1,hm,rb,ri⟩;have p:=gl.mono r;have r6:=q.r6;have ag:=X.q1;refine Fk p q X.n9 X.kb o X.q2 X.sb X.no X.yes fun FA fc KA kc h3 l3 rf rk=>⟨_,_,_,_,_,_,_,rfl,E6 (fun e=>absurd rfl e) (fun _=>?_)⟩;have pw:=(X.kb N (aC _)).pw;have key:∀K':VP,(∀A' c' h',h3.le h'->aM SSr h' A' (rkM V v d'+1) (fun i=>F3 (An (fmM V (frm N) v d') (rkM V v d') i))->K' (.tuple #[.slice A' (rkM V v d'+1) c',I 0]) h')->aO prog 62 #[.agg #[.slice KA (rkM V v d'+1) kc]] h3 K':=fun K' H=>by{have:=Kk (K:=K') (kc:=kc) (p.mono l3) rk l r6 pw o X.q2 X.sb;rw[X.yes]at this;exact this l X.min X.minS H};refine key _ fun MA mc h4 Q rm=>⟨_,_,_,_,rfl,E6 (fun e=>absurd rfl e) (fun _=>?_)⟩;have w:=B0 l3 Q;have u:=rk.mono (Uh _) Q;have S:=rf.mono E9 Q;refine⟨fun L hp=>∃(j:Nat) (CA:Option aL) (cc:Nat),j<=v/\L=[I (j:Int),.slice none 0 0,.slice none 0 0,.slice none 0 0,.slice none 0 0,.slice FA v fc,.slice MA (rkM V v d'+1) mc,.slice CA j cc,.slice none 0 0]/\Lst TXr 31 h4 hp CA cc j (C3g V v d' N),fun L _=>v-(iAt L 0).toNat,⟨0,none,0,o,rfl,Lst.nil⟩,?_⟩;rintro z aA an ac bA bn af cA cn ai dA dn dc eA v ec gA gn gc CA j cc iA iN ah hp ⟨j0,CA0,ae,hj,eL,L⟩;obtain⟨rfl,⟨rfl,rfl,rfl⟩,⟨rfl,rfl,rfl⟩,⟨rfl,rfl,rfl⟩,⟨rfl,rfl,rfl⟩,⟨rfl,rfl,rfl⟩,⟨rfl,rfl,rfl⟩,⟨rfl,rfl,rfl⟩,rfl,rfl,rfl⟩:=eL;refine C1 (fun ad=>?_) (fun aa=>?_);{have n:j<v:=o;refine L.call Px fun g G=>?_;have t:=B0 w G;refine Qh (mq:=mq) (p.mono t) (q.mono t) n (fun i k B W=>⟨(X.kb N (aC _)).iv i k B W,(X.ku j n i k B W).1⟩) o X.q2 (u.mono (Uh _) G) pw (fun i B=>(X.ku j n i i B B).2) X.sb (X.coo j n) (X.cooS j n) fun A5 c5 g5 T r5=>⟨T,fun h5 _ L5=>⟨_,_,_,_,rfl,E6 (fun e=>absurd rfl e) (fun _=>?_)⟩⟩;refine L5.push Px B64 rfl (y:=(⟨A5,_,c5⟩:HV)) (by rfl) ⟨rfl,r5⟩ (by decide) o fun A6 c6 h6 L6=>?_;rw[wiS j o];exact⟨⟨j+1,_,_,o,rfl,L6.weak (B0 G T)⟩,by simp only[O8];omega⟩};·obtain rfl:j=v:=o;have O:=B0 w L.le;refine A0a (mq:=mq) (p.mono O) (q.mono O) o X.q2 X.q1 (u.mono (Uh _) L.le) pw X.sb (rm.mono E9 L.le) l o X.sP X.sS X.sT X.sR X.wok X.wS fun WA wc h7 E M=>⟨_,_,_,_,rfl,E6 (fun e=>absurd rfl e) (fun _=>?_)⟩;exact kk _ _ _ _ _ _ _ _ _ (B0 r (B0 O E)) ⟨S.mono E9 (B0 L.le E),rm.mono E9 (B0 L.le E),(L.row Px).mono Px E,M⟩
end
def Uq{C:Nat->Nat->Rat}{n:Nat}(h:∀x:Nat->Rat,(∀i,i<n->sm n (fun t=>C i t*x t)=0)->∀t,t<n->x t=0):(ecE C n n).cs.length=n:=by have j:=(Q6 C n n).1;refine aX fun g=>?_;obtain⟨x,⟨t,ht,hx⟩,h0⟩:∃x:Nat->Rat,(∃t,t<n/\x t≠0)/\∀i,i<n->sm n (fun t=>C i t*x t)=0:=by{have c:Asc (ecE C n n).cs n:=Dl n ⟨C,[],1⟩ rfl n;have f:0<(Lp (ecE C n n).cs n).length:=by{rw[Ut c];omega};obtain⟨d,e⟩:=Oj (ecE C n n).cs n _ (O0 f);refine⟨B8z (ecE C n n).R (ecE C n n).cs n 0,⟨_,d,?_⟩,fun i k=>A03 (M:=C) (n:=n) (w:=n) f k⟩;unfold B8z;rw[Zo e _ (aC _)];decide};exact hx (h x h0 t ht)
def Ll{C:Nat->Nat->Rat}{n:Nat}(h:(ecE C n n).cs.length=n):Ib (fl C n) n:=by have d:=(Sf (n:=n) (w:=n) (M:=mtx (O3 (fl C n) n) (n+n)) (M':=C) (fun i j _ c=>by show O3 (fl C n) n (i*(n+n)+j)=_;rw[Gb (fl C n) o,iP c];exact K3 C c) n (aC n)).1;show(Pd n ⟨mtx (O3 (fl C n) n) (n+n),[],1⟩ n).cs.length=n;rw[d];exact h
def Of{C:Nat->Nat->Rat}{n:Nat}(h:Ib (fl C n) n){i j:Nat}(hi:i<n)(hj:j<n):sm n (fun t=>C i t*Qe (fl C n) n t j)=if i=j then 1 else 0:=by rw[<- A5f h hi hj];exact C5 fun t c=>by rw[K3 C c]
def M0{n m:Nat}(f:Nat->Rat)(A:Nat->Nat->Rat)(x:Nat->Rat):sm n (fun t=>f t*sm m fun j=>A t j*x j)=sm m fun j=>sm n (fun t=>f t*A t j)*x j:=by rw[C5 (g:=fun t=>sm m fun j=>f t*A t j*x j) fun t _=>by rw[<- J3];exact C5 fun j _=>by rw[cM]];rw[V5];exact C5 fun j _=>R4 _ _ _
structure Blk (s:Nat) (u:Nat->Rat) (B:Nat->Nat->Rat):Prop where
 pos:∀ l,l<s->0<u l
 inv:Ib (fl (gM s u B) s) s
def phM(s:Nat)(u φ:Nat->Rat)(B:Nat->Nat->Rat):Nat->Nat->Rat:=Dh s (Qe (fl (gM s u B) s) s) (fun i j=>sm s fun l=>u l*φ l*(B l i*B l j))
section
variable {s:Nat} {u φ:Nat->Rat} {B:Nat->Nat->Rat}
def Blk.ker(b:Blk s u B){x:Nat->Rat}(h:∀l,l<s->sm s (fun t=>B l t*x t)=0):∀t,t<s->x t=0:=by refine A5g b.inv (fun i j c d=>by rw[K3 _ c,K3 _ d];exact A5j s s u B i j c d) fun i c=>?_;rw[C5 (g:=fun t=>sm s fun l=>u l*B l i*(B l t*x t)) fun t f=>by rw[K3 _ f];unfold gM;rw[<- R4];exact C5 fun l _=>gz0];rw[V5];exact K7 fun l e=>by rw[J3,h l e,aQ]
def Blk.eq(b:Blk s u B){x y:Nat->Rat}(h:∀l,l<s->sm s (fun t=>B l t*x t)=sm s (fun t=>B l t*y t)):∀t,t<s->x t=y t:=fun t d=>by have:=b.ker (x:=fun t=>x t + - y t) (fun l c=>by rw[C5 (g:=fun t=>B l t*x t + - (B l t*y t)) fun t _=>gz0,Y7,Hh,h l c];grind) t d;grind
def Blk.full(b:Blk s u B):Ib (fl B s) s:=Ll (Uq fun _ h=>b.ker h)
def duM(s:Nat)(B:Nat->Nat->Rat):Nat->Nat->Rat:=Qe (fl B s) s
def Blk.du(b:Blk s u B){l k:Nat}(hl:l<s)(hk:k<s):sm s (fun t=>B l t*duM s B t k)=if l=k then 1 else 0:=Of b.full hl hk
def Blk.left(b:Blk s u B){z:Nat->Rat}(h:∀i,i<s->sm s (fun l=>z l*B l i)=0):∀l,l<s->z l=0:=fun k c=>by have e:sm s (fun l=>z l*sm s fun t=>B l t*duM s B t k)=z k:=by{rw[N6 c fun l f d=>by rw[b.du f c,iN d,aQ],b.du c c,iP rfl,aW]};rw[<- e,M0];exact K7 fun j g=>by rw[h j g,aV]
def Blk.mult(b:Blk s u B)(φ:Nat->Rat){l j:Nat}(hl:l<s)(hj:j<s):sm s (fun t=>B l t*phM s u φ B t j)=φ l*B l j:=by have key:=b.left (z:=fun l=>u l*(sm s (fun t=>B l t*phM s u φ B t j) + - (φ l*B l j))) (fun i c=>by have f:sm s (fun t=>gM s u B i t*phM s u φ B t j)=sm s fun l=>u l*φ l*(B l i*B l j):=by{show sm s (fun t=>gM s u B i t*sm s fun m=>Qe (fl (gM s u B) s) s t m*_)=_;rw[M0,N6 c fun k e d=>by rw[Of b.inv c e,iN (Ne.symm d),aV],Of b.inv c c,iP rfl,aZ]};have n:sm s (fun t=>gM s u B i t*phM s u φ B t j)=sm s fun l=>u l*B l i*sm s fun t=>B l t*phM s u φ B t j:=by{rw[C5 (g:=fun t=>sm s fun l=>u l*B l i*(B l t*phM s u φ B t j)) fun t _=>by unfold gM;rw[<- R4];exact C5 fun l _=>gz0];rw[V5];exact C5 fun l _=>J3 _ _ _};rw[C5 (g:=fun l=>u l*B l i*(sm s fun t=>B l t*phM s u φ B t j) + - (u l*φ l*(B l i*B l j))) fun l _=>gz0,Y7,Hh,<- f,<- n];grind) l hl;have:=b.pos l hl;grind
def Blk.pow(b:Blk s u B)(φ:Nat->Rat)(h1:1<=s)(h0:∀l,l<s->B l 0=1):∀k l,l<s->sm s (fun t=>B l t*kpw (phM s u φ B) s k t)=φ l^k:=by
 intro k
 induction k with
 |zero=>
  intro l c;rw[N6 (k:=0) o fun t _ d=>by show B l t*(if t=0 then 1 else 0)=0;rw[iN d,aQ]];show B l 0*(if 0=0 then 1 else 0)=_;rw[iP rfl,h0 l c,bX,aZ]
 |succ k ih=>
  intro l c;show sm s (fun t=>B l t*sm s fun j=>phM s u φ B t j*kpw (phM s u φ B) s k j)=_;rw[M0,C5 (g:=fun j=>φ l*(B l j*kpw (phM s u φ B) s k j)) fun j e=>by rw[b.mult φ c e,cM],J3,ih l c,cO,cP]
def Blk.kpw_eq(b:Blk s u B)(φ:Nat->Rat)(h1:1<=s)(h0:∀l,l<s->B l 0=1)(k:Nat):∀t,t<s->kpw (phM s u φ B) s k t=sm s fun l=>duM s B t l*φ l^k:=by refine b.eq fun l c=>?_;rw[b.pow φ h1 h0 k l c,M0,N6 c fun m e d=>by rw[b.du c e,iN (Ne.symm d),aV],b.du c c,iP rfl,aZ]
def Blk.ph_eq(b:Blk s u B)(φ:Nat->Rat){j:Nat}(hj:j<s):∀t,t<s->phM s u φ B t j=sm s fun l=>duM s B t l*(φ l*B l j):=by refine b.eq fun l c=>?_;rw[b.mult φ c hj,M0,N6 c fun m e d=>by rw[b.du c e,iN (Ne.symm d),aV],b.du c c,iP rfl,aZ]
end
def Dis(s:Nat)(φ:Nat->Rat):Prop:=∀k l,k<s->l<s->k≠l->φ k≠φ l
def pvl(x:Nat->Rat)(n:Nat)(t:Rat):Rat:=sm n fun j=>t^j*x j
def A67{s:Nat}(hs:s<=3){φ:Nat->Rat}(hd:Dis s φ){x:Nat->Rat}(h:∀l,l<s->pvl x s (φ l)=0):∀t,t<s->x t=0:=by rcases(show s=0\/s=1\/s=2\/s=3 from o)with rfl|rfl|rfl|rfl;{intro t f;omega};{intro t f;obtain rfl:t=0:=o;have:=h 0 o;simp only[pvl,sm]at this;grind};{have e:=h 0 o;have c:=h 1 o;have d:=hd 0 1 o o o;simp only[pvl,sm]at e c;have j:x 1=0:=gz0;intro t f;rcases(show t=0\/t=1 from o)with rfl|rfl<;>grind};·have e:=h 0 o;have c:=h 1 o;have k:=h 2 o;have m:=hd 0 1 o o o;have i:=hd 0 2 o o o;have g:=hd 1 2 o o o;simp only[pvl,sm]at e c k;have a:x 1+(φ 0+φ 1)*x 2=0:=by{have:(φ 0-φ 1)*(x 1+(φ 0+φ 1)*x 2)=0:=gz0;grind};have b:x 1+(φ 0+φ 2)*x 2=0:=by{have:(φ 0-φ 2)*(x 1+(φ 0+φ 2)*x 2)=0:=gz0;grind};have n:x 2=0:=gz0;have j:x 1=0:=gz0;intro t f;rcases(show t=0\/t=1\/t=2 from o)with rfl|rfl|rfl<;>grind
def Xn{s:Nat}(hs:s<=3){φ:Nat->Rat}(hd:Dis s φ){x y:Nat->Rat}(h:∀l,l<s->pvl x s (φ l)=pvl y s (φ l)):∀t,t<s->x t=y t:=fun t d=>by have:=A67 hs hd (x:=fun t=>x t + - y t) (fun l c=>by have:=h l c;unfold pvl at *;rw[C5 (g:=fun j=>φ l^j*x j + - (φ l^j*y j)) fun j _=>gz0,Y7,Hh,this];grind) t d;grind
section
variable {s:Nat} {u φ:Nat->Rat} {B:Nat->Nat->Rat}
def Blk.col(b:Blk s u B)(φ:Nat->Rat)(h1:1<=s)(h0:∀l,l<s->B l 0=1)(x:Nat->Rat){n l:Nat}(hl:l<s):sm s (fun t=>B l t*sm n fun j=>Dj (kpw (phM s u φ B) s) t j*x j)=pvl x n (φ l):=by rw[M0];exact C5 fun j _=>by rw[show sm s (fun t=>B l t*Dj (kpw (phM s u φ B) s) t j)=φ l^j from b.pow φ h1 h0 j l hl]
def Blk.deg(b:Blk s u B)(h1:1<=s)(hs:s<=3)(h0:∀l,l<s->B l 0=1)(hd:Dis s φ):Bg (phM s u φ B) s=s:=Uq fun x e=>A67 hs hd fun l c=>by rw[<- b.col φ h1 h0 x c];exact K7 fun t d=>by rw[e t d,aQ]
def Blk.dis(b:Blk s u B)(h1:1<=s)(h0:∀l,l<s->B l 0=1)(hd:Bg (phM s u φ B) s=s):Dis s φ:=fun k l d i c e=>by have inv:=Ll (C:=Dj (kpw (phM s u φ B) s)) (n:=s) hd;have row:∀k,k<s->∀m,m<s->pvl (fun j=>Qe (fl (Dj (kpw (phM s u φ B) s)) s) s j m) s (φ k)=B k m:=fun k d m f=>by{rw[<- b.col φ h1 h0 _ d,N6 f fun t g c=>by rw[Of inv g f,iN c,aQ],Of inv f f,iP rfl,aW]};have p:sm s (fun t=>B k t*duM s B t k)=sm s (fun t=>B l t*duM s B t k):=C5 fun t g=>by{rw[<- row k d t g,<- row l i t g,e]};rw[b.du d d,b.du i d,iP rfl,iN (Ne.symm c)]at p;exact absurd p dc
def Blk.slv(b:Blk s u B)(h1:1<=s)(h0:∀l,l<s->B l 0=1)(hd:Bg (phM s u φ B) s=s)(y:Nat->Rat):S0 (fl (Dj (kpw (phM s u φ B) s)) s) y s s/\∀l,l<s->pvl (Hi (fl (Dj (kpw (phM s u φ B) s)) s) y s s) s (φ l)=sm s fun t=>B l t*y t:=by have inv:=Ll (C:=Dj (kpw (phM s u φ B) s)) (n:=s) hd;have ok:S0 (fl (Dj (kpw (phM s u φ B) s)) s) y s s:=Xf (fun j=>sm s fun m=>Qe (fl (Dj (kpw (phM s u φ B) s)) s) s j m*y m) fun i c=>by{rw[C5 (g:=fun j=>Dj (kpw (phM s u φ B) s) i j*sm s fun m=>Qe (fl (Dj (kpw (phM s u φ B) s)) s) s j m*y m) fun j d=>by rw[K3 _ d],M0,N6 c fun m f e=>by rw[Of inv c f,iN (Ne.symm e),aV],Of inv c c,iP rfl,aZ]};refine⟨ok,fun l k=>?_⟩;rw[<- b.col φ h1 h0 _ k];exact C5 fun t p=>by rw[<- Th ok p];exact congrArg _ (C5 fun j d=>by rw[K3 _ d])
def C4r{s:Nat}(h1:1<=s)(hs:s<=3){φ:Nat->Rat}(hd:Dis s φ){x:Nat->Rat}(hx:∀l,l<s->pvl x s (φ l)=φ l^s):
 let P:=fun i=>if i=s then(1:Rat)else-x i
 ∀k,k<2*s-1->ps P s k=sm s fun l=>φ l^k:=by
 intro P;have g:∀i,i<s->P i= - x i:=fun i u=>iN o;rcases(show s=1\/s=2\/s=3 from o)with rfl|rfl|rfl
 ·intro k q;obtain rfl:k=0:=o;show((1:Nat):Rat)=_;simp only[sm,bX];decide +kernel
 ·have e:=Xn o hd (x:=x) (y:=fun i=>if i=0 then-(φ 0*φ 1)else φ 0+φ 1) (fun l n=>by
   rw[hx l n];simp only[pvl,sm];rcases(show l=0\/l=1 from o)with rfl|rfl<;>simp<;>grind);have f:=e 0 o;have c:=e 1 o;rw[iP rfl]at f;rw[iN o]at c;have p:ps P 2 0=2:=rfl
  have d:ps P 2 1=φ 0+φ 1:=by
   rw[W9];simp[psT,g,c];grind
  have j:ps P 2 2=φ 0^2+φ 1^2:=by
   rw[W9];simp[psT,g,f,c,d];grind
  intro k q;rcases(show k=0\/k=1\/k=2 from o)with rfl|rfl|rfl<;>simp only[sm,p,d,j]<;>grind
 ·have e:=Xn o hd (x:=x) (y:=fun i=>if i=0 then φ 0*φ 1*φ 2 else if i=1 then-(φ 0*φ 1+φ 0*φ 2+φ 1*φ 2)else φ 0+φ 1+φ 2) (fun l n=>by
   rw[hx l n];simp only[pvl,sm];rcases(show l=0\/l=1\/l=2 from o)with rfl|rfl|rfl<;>simp<;>grind);have f:=e 0 o;have c:=e 1 o;have m:=e 2 o;simp at f c m;have p:ps P 3 0=3:=rfl
  have d:ps P 3 1=φ 0+φ 1+φ 2:=by
   rw[W9];simp[psT,g,m];grind
  have j:ps P 3 2=φ 0^2+φ 1^2+φ 2^2:=by
   rw[W9];simp[psT,g,c,m,d];grind
  have r:ps P 3 3=φ 0^3+φ 1^3+φ 2^3:=by
   rw[W9];simp[psT,g,f,c,m,d,j];grind
  have t:ps P 3 4=φ 0^4+φ 1^4+φ 2^4:=by
   rw[W9];simp[psT,g,f,c,m,d,j,r];grind
  intro k q;rcases(show k=0\/k=1\/k=2\/k=3\/k=4 from o)with rfl|rfl|rfl|rfl|rfl<;>simp only[sm,p,d,j,r,t]<;>grind
end
def A1x(q:Rat)(n:Nat):(q^n).num=q.num^n/\(q^n).den=q.den^n:=⟨Rat.num_pow q n,Rat.den_pow q n⟩
def ZB.pow{m:Nat}{x:Int}(h:ZB m x)(hm:1<=m)(n:Nat):ZB (m*n+1) (x^n):=by unfold ZB;rw[Int.natAbs_pow];exact A8j h hm n
def Sz.pow{m:Nat}{q:Rat}(h:Sz m q)(hm:1<=m)(n:Nat):Sz (m*n+1) (q^n):=by obtain⟨c,d⟩:=A1x q n;refine⟨by rw[c];exact h.num.pow hm n,?_⟩;rw[d,Int.natCast_pow];exact h.den.pow hm n
section
variable {h:aH} {K:VP} {m:Nat} {a b:List UInt8} {w:QV} {q:Rat}
end
def Ag(q:Rat)(a b:Nat):q^(a+b)=q^a*q^b:=by
 induction b with
 |zero=>rw[cR,bX,aW]
 |succ b ih=>rw[<- Nat.add_assoc,cO,cO,ih,cM]
section
variable {h:aH} {K:VP} {w:QV} {p:Rat} {m:Nat}
def A95{n:Nat}(i:NQ h w p)(hp:Sz m p)(hm1:1<=m)(hn:n<=1000)(hm:m*n+1<=1000000)(hK:∀ w h',h.le h'->NQ h' w (p^n)->K w.v h'):aO prog 119 #[w.v,I (n:Int)] h K:=by
 refine (fnk func119 [(2,[1],[(2,4),(5,4)],[I 0,.bool false,.slice none 0 0,.bool false,.slice none 0 0,.bool false,.slice none 0 0,.bool false,.slice none 0 0])] (own:=[2,4,5])) ?_
 refine Ao o ?_
 intro w0 D G i0
 refine ⟨_,_,_,_,_,_,_,_,rfl,?_⟩
 refine ⟨fun L hp=>h.le hp/\∃ (c e f:Nat) (v u:QV),(c<=n/\f+e*c=n)/\NQ hp v (p^e)/\NQ hp u (p^f)/\L=I (c:Int)::(qc v++qc u),fun L _=>(iAt L 0).toNat,⟨G,n,1,0,w,w0,⟨aC _,o⟩,by rw [Rat.pow_one];exact i.mono G,by rw [bX];exact i0,rfl⟩,?_⟩
 rintro t a0 V af ah a2 T Q ad o0 W ae ag o2 S aa ac q ⟨A,c,e,f,v,u,⟨M,H⟩,l,s,E⟩
 simp only [qc,List.cons_append,List.nil_append,aG,aJ,bH,aI,true_and,and_true] at E
 obtain ⟨rfl,rfl,⟨rfl,rfl,rfl⟩,rfl,⟨rfl,rfl,rfl⟩,rfl,⟨rfl,rfl,rfl⟩,rfl,rfl,rfl,rfl⟩:=E
 refine C1 (fun g=>?_) (fun g=>?_)
 ·have r:1<=c:=o
  have he:e<=n:=by
   have:e*1<=e*c:=aN e r
   omega
  have hf:f<=n:=o
  have R:Int.tmod (c:Int) 2=((c%2:Nat):Int):=by rw [Int.tmod_eq_emod_of_nonneg o];omega
  have O:C4 (Int.tdiv (c:Int) 2)=((c/2:Nat):Int):=by rw [bO o,C2 o o];omega
  have B:m*e+1<=m*n+1:=by have:=aN m he;omega
  have y:m*f+1<=m*n+1:=by have:=aN m hf;omega
  have k:=(hp.pow hm1 e).mono B
  have zf:=(hp.pow hm1 f).mono y
  have F:e*c=(e+e)*(c/2)+e*(c%2):=by
   have:=Nat.div_add_mod c 2
   calc e*c=e*(2*(c/2)+c%2):=by rw [this]
    _=(e+e)*(c/2)+e*(c%2):=by rw [Nat.mul_add,<- Nat.mul_assoc,cC e 2,Nat.two_mul]
  rw [R,O]
  refine D5 (fun g1=>?_) (fun g1=>?_)
  ·refine K9 s l zf k o ?_
   intro X h2 C N
   refine ⟨_,_,_,_,_,_,_,_,rfl,K9 (l.mono C) (l.mono C) k k o ?_⟩
   intro z h3 j d
   rw [<- Ag] at N d
   refine ⟨_,_,_,_,_,_,_,_,rfl,⟨B0 A (B0 C j),c/2,e+e,f+e,z,X,?_,d,N.mono j,rfl⟩,?_⟩
   ·have:c%2=1:=o
    rw [this,bZ] at F;exact ⟨o,o⟩
   ·simp [iAt];omega
  ·refine K9 l l k k o ?_
   intro z h3 j d
   rw [<- Ag] at d
   refine ⟨_,_,_,_,_,_,_,_,rfl,⟨B0 A j,c/2,e+e,f,z,u,?_,d,s.mono j,rfl⟩,?_⟩
   ·have:c%2=0:=o
    rw [this,Nat.mul_zero] at F;exact ⟨o,o⟩
   ·simp [iAt];omega
 ·have D:c=0:=o
  subst D
  rw [Nat.mul_zero,cR] at H
  subst H
  exact hK u q A s
end
def C5x{s:Nat}(hs:s<=3){φ:Nat->Rat}(hd:Dis s φ)(D:Nat->Nat->Rat)(hD:∀l m,l<s->m<s->pvl (fun j=>D j m) s (φ l)=if l=m then 1 else 0){H:Nat->Nat->Rat}(hH:∀i k,i<s->k<s->H i k=sm s fun l=>φ l^(i+k)){u r:Nat->Rat}(hr:∀i,i<s->r i=sm s fun l=>u l*φ l^i): S0 (fl H s) r s s/\∀l,l<s->pvl (Hi (fl H s) r s s) s (φ l)=u l:=by have Hx:∀x:Nat->Rat,∀i,i<s->sm s (fun k=>mtx (fl H s) s i k*x k)=sm s fun l=>φ l^i*pvl x s (φ l):=fun x i c=>by{rw[C5 (g:=fun k=>sm s (fun l=>φ l^i*φ l^k)*x k) fun k p=>by rw[K3 _ p,hH i k c p];exact congrArg (· * x k) (C5 fun l _=>Ag _ _ _),<- M0];rfl};have ok:S0 (fl H s) r s s:=Xf (fun j=>sm s fun m=>D j m*u m) fun i c=>by{rw[Hx _ i c,hr i c];refine C5 fun l n=>?_;have:pvl (fun j=>sm s fun m=>D j m*u m) s (φ l)=u l:=by{show sm s (fun j=>φ l^j*sm s fun m=>D j m*u m)=_;rw[M0,N6 n fun m f d=>by have:=hD l m n f;rw[iN (Ne.symm d)]at this;show pvl (fun j=>D j m) s (φ l)*u m=0;rw[this,aV]];have:=hD l l n n;rw[iP rfl]at this;show pvl (fun j=>D j l) s (φ l)*u l=u l;rw[this,aZ]};rw[this,cP]};refine⟨ok,fun m f=>?_⟩;have q:∀i,i<s->sm s (fun l=>(pvl (Hi (fl H s) r s s) s (φ l) + - u l)*φ l^i)=0:=fun i c=>by{have e:=Th ok c;rw[Hx _ i c,hr i c]at e;rw[C5 (g:=fun l=>φ l^i*pvl (Hi (fl H s) r s s) s (φ l) + - (u l*φ l^i)) fun l _=>gz0,Y7,Hh,e];grind};have e:sm s (fun l=>(pvl (Hi (fl H s) r s s) s (φ l) + - u l)*pvl (fun j=>D j m) s (φ l))=pvl (Hi (fl H s) r s s) s (φ m) + - u m:=by{rw[N6 f fun l n d=>by rw[hD l m n f,iN d,aQ],hD m m f f,iP rfl,aW]};have:sm s (fun l=>(pvl (Hi (fl H s) r s s) s (φ l) + - u l)*pvl (fun j=>D j m) s (φ l))=0:=by{unfold pvl at q ⊢;rw[M0];exact K7 fun j t=>by rw[q j t,aV]};grind
def mvl(x:Nat->Rat):List Int->Nat->Rat
 | [],_=>1
 |e::es,i=>x i^e.toNat*mvl x es (i+1)
def ptV(s:Nat)(u:Nat->Rat)(y:Nat->Nat->Rat)(v D:Nat):Nat->Rat:=fun i=>sm s fun l=>u l*mvl (y l) (mon v D i) 0
def wV(y:Nat->Nat->Rat)(v d:Nat):Nat->Nat->Rat:=fun l i=>mvl (y l) (mon v d i) 0
def B8o(x:Nat->Rat)(a:Int):mvl x [a] 0=x 0^a.toNat:=by simp[mvl]
def B3e(x:Nat->Rat)(a b:Int):mvl x [a,b] 0=x 0^a.toNat*x 1^b.toNat:=by simp[mvl]
def B8n(x:Nat->Rat){a b:List Int}(hl:a.length=b.length)(h:a.length=1\/a.length=2)(ha:∀z∈a,0<=z)(hb:∀z∈b,0<=z):mvl x (opL (fun x y=>x+y) a b) 0=mvl x a 0*mvl x b 0:=by
 rcases h with h|h
 ·obtain⟨c,rfl⟩:=List.length_eq_one_iff.1 h;obtain⟨b0,rfl⟩:=List.length_eq_one_iff.1 (hl▸h);have e:opL (fun x y=>x+y) [c] [b0]=[c+b0]:=rfl;have:=ha c (by simp);have:=hb b0 (by simp);rw[e,B8o,B8o,B8o,<- Ag,aT o o]
 ·obtain⟨c,a1,rfl⟩:∃c a1,a=[c,a1]:=by
   match a,h with
   | [c,a1],_=>exact⟨c,a1,rfl⟩
  obtain⟨b0,b1,rfl⟩:∃b0 b1,b=[b0,b1]:=by
   match b,hl with
   | [b0,b1],_=>exact⟨b0,b1,rfl⟩
  have e:opL (fun x y=>x+y) [c,a1] [b0,b1]=[c+b0,a1+b1]:=rfl;have:=ha c (by simp);have:=hb b0 (by simp);have:=ha a1 (by simp);have:=hb b1 (by simp);rw[e,B3e,B3e,B3e,aT o o,aT o o,Ag,Ag];grind
section
variable {s:Nat} {u:Nat->Rat} {y:Nat->Nat->Rat} {v d D:Nat}
def Lj(h1:1<=v)(h2:v<=2)(hD:D<=6){k:Nat}(hk:k<(mo v D).length):(mon v D k).length=v/\∀z∈mon v D k,0<=z:=⟨((O9 h1 h2 hD).val k hk).2.1,fun z c=>((mz h1 h2 hD hk).bnd z c).1⟩
def C21(s:Nat)(u:Nat->Rat)(y:Nat->Nat->Rat)(h1:1<=v)(h2:v<=2)(hd:d<=3)(hD:D<=6)(hdD:2*d<=D){i j:Nat}(hi:i<nM v d)(hj:j<nM v d):Bu (ptV s u y v D) v d i j=gM s u (wV y v d) i j:=by have q:=O2 h1 h2 hd hD hdD hi hj;obtain⟨f,c⟩:=Lj h1 h2 (show d<=6 from o) hi;obtain⟨g,e⟩:=Lj h1 h2 (show d<=6 from o) hj;unfold Bu ptV gM wV;rw[<- q.eq];exact C5 fun l _=>by rw[B8n _ o o c e]
end
def PtD(s v:Nat)(y:Nat->Nat->Rat):Prop:=∀k l,k<s->l<s->k≠l->∃i,i<v/\y k i≠y l i
def unL(v a:Nat):List Int:=(bL v).map fun i=>if i=a then 1 else 0
def C5y(v a b:Nat):List Int:=(bL v).map fun i=>(if i=a then 1 else 0)+if i=b then 1 else 0
def A5h:∀v:Fin 3,∀d:Fin 4,1<=v.val->(mon v d 0=(bL v).map fun _=>0)/\(1<=d.val->∀a:Fin 2,a.val<v.val->∃i:Fin 10,i.val<nM v d/\mon v d i=unL v a)/\(2<=d.val->∀a b:Fin 2,a.val<v.val->b.val<v.val->∃i:Fin 10,i.val<nM v d/\mon v d i=C5y v a b):=by decide +kernel
section
variable {s v d:Nat} {y:Nat->Nat->Rat}
def Rep(s v d:Nat)(y:Nat->Nat->Rat)(f:Nat->Rat):Prop:=∃q:Nat->Rat,∀l,l<s->sm (nM v d) (fun i=>wV y v d l i*q i)=f l
def Rep.congr{f g:Nat->Rat}(r:Rep s v d y f)(h:∀l,l<s->f l=g l):Rep s v d y g:=by obtain⟨q,e⟩:=r;exact⟨q,fun l c=>by rw[e l c,h l c]⟩
def Rep.add{f g:Nat->Rat}(r:Rep s v d y f)(t:Rep s v d y g):Rep s v d y (fun l=>f l+g l):=by obtain⟨q,j⟩:=r;obtain⟨p,e⟩:=t;refine⟨fun i=>q i+p i,fun l c=>?_⟩;dsimp only;rw[<- j l c,<- e l c,<- Y7];exact C5 fun i _=>Rat.mul_add _ _ _
def Rep.mul{f:Nat->Rat}(c:Rat)(r:Rep s v d y f):Rep s v d y (fun l=>c*f l):=by obtain⟨q,g⟩:=r;refine⟨fun i=>c*q i,fun l e=>?_⟩;dsimp only;rw[<- g l e,<- J3];exact C5 fun i _=>by grind
def Rep.mon{i:Nat}(hi:i<nM v d):Rep s v d y (fun l=>wV y v d l i):=by refine⟨fun j=>if j=i then 1 else 0,fun l _=>?_⟩;dsimp only;rw[N6 hi fun j _ c=>by rw[iN c,aQ],iP rfl,aW]
def A43(h1:1<=v)(h2:v<=2)(hd:d<=3)(l:Nat):wV y v d l 0=1:=by have:=(A5h ⟨v,o⟩ ⟨d,o⟩ h1).1;dsimp only at this;unfold wV;rw[this];rcases(show v=1\/v=2 from o)with rfl|rfl;{show mvl (y l) [0] 0=1;simp[mvl]};·show mvl (y l) [0,0] 0=1;simp[mvl]
def Rep.one(h1:1<=v)(h2:v<=2)(hd:d<=3):Rep s v d y (fun _=>1):=(Rep.mon (Nt h1 h2 hd).1).congr fun l _=>A43 h1 h2 hd l
def Rep.var(h1:1<=v)(h2:v<=2)(hd:d<=3)(hd1:1<=d){a:Nat}(ha:a<v):Rep s v d y (fun l=>y l a):=by obtain⟨i,c,e⟩:=(A5h ⟨v,o⟩ ⟨d,o⟩ h1).2.1 hd1 ⟨a,o⟩ ha;dsimp only at c e;refine(Rep.mon c).congr fun l _=>?_;unfold wV;rw[e];rcases(show v=1\/v=2 from o)with rfl|rfl;{obtain rfl:a=0:=o;show mvl (y l) [1] 0=_;simp[mvl]};·rcases(show a=0\/a=1 from o)with rfl|rfl;{show mvl (y l) [1,0] 0=_;simp[mvl]};·show mvl (y l) [0,1] 0=_;simp[mvl]
def B5w(h1:1<=v)(h2:v<=2)(hd:d<=3)(hd1:2<=d){a b:Nat}(ha:a<v)(hb:b<v):Rep s v d y (fun l=>y l a*y l b):=by obtain⟨i,c,e⟩:=(A5h ⟨v,o⟩ ⟨d,o⟩ h1).2.2 hd1 ⟨a,o⟩ ⟨b,o⟩ ha hb;dsimp only at c e;refine(Rep.mon c).congr fun l _=>?_;unfold wV;rw[e];rcases(show v=1\/v=2 from o)with rfl|rfl;{obtain rfl:a=0:=o;obtain rfl:b=0:=o;show mvl (y l) [2] 0=_;simp[mvl];grind};·rcases(show a=0\/a=1 from o)with rfl|rfl<;>rcases(show b=0\/b=1 from o)with rfl|rfl;{show mvl (y l) [2,0] 0=_;simp[mvl];grind};{show mvl (y l) [1,1] 0=_;simp[mvl]};{show mvl (y l) [1,1] 0=_;simp[mvl];grind};·show mvl (y l) [0,2] 0=_;simp[mvl];grind
def Rep.aff(h1:1<=v)(h2:v<=2)(hd:d<=3)(hd1:1<=d){a:Nat}(ha:a<v)(c:Rat):Rep s v d y (fun l=>y l a-c):=((Rep.var h1 h2 hd hd1 ha).add ((Rep.one h1 h2 hd).mul (-c))).congr fun l _=>by grind
def B5x(h1:1<=v)(h2:v<=2)(hd:d<=3)(hd1:2<=d){a b:Nat}(ha:a<v)(hb:b<v)(c e:Rat):Rep s v d y (fun l=>(y l a-c)*(y l b-e)):=(((B5w h1 h2 hd hd1 ha hb).add ((Rep.var h1 h2 hd o ha).mul (-e))).add (((Rep.var h1 h2 hd o hb).mul (-c)).add ((Rep.one h1 h2 hd).mul (c*e)))).congr fun l _=>by grind
def B34(h1:1<=v)(h2:v<=2)(hd:d<=3)(hs:s<=3)(hsd:s<=d+1)(hy:PtD s v y){k:Nat}(hk:k<s):Rep s v d y (fun l=>if l=k then 1 else 0):=by have one:∀k l,k<s->l<s->k≠l->s=2->Rep s v d y (fun m=>if m=k then 1 else 0):=fun k l hk f hkl e=>by{obtain⟨a,j,g⟩:=hy k l hk f hkl;refine((Rep.aff h1 h2 hd o j (y l a)).mul (y k a-y l a)⁻¹).congr fun m n=>?_;by_cases h:m=k;{rw[iP h,h];exact Rat.inv_mul_cancel _ gz0};·rw[iN h];obtain rfl:m=l:=o;grind};have c:∀k l m,k<s->l<s->m<s->k≠l->k≠m->l≠m->s=3->Rep s v d y (fun t=>if t=k then 1 else 0):=fun k l m hk f n hkl i q e=>by{obtain⟨a,j,g⟩:=hy k l hk f hkl;obtain⟨b,r,p⟩:=hy k m hk n i;refine((B5x h1 h2 hd o j r (y l a) (y m b)).mul ((y k a-y l a)*(y k b-y m b))⁻¹).congr fun t u=>?_;by_cases h:t=k;{rw[iP h,h];exact Rat.inv_mul_cancel _ gz0};·rw[iN h];rcases(show t=l\/t=m from o)with rfl|rfl<;>grind};rcases(show s=1\/s=2\/s=3 from o)with rfl|rfl|rfl;{exact(Rep.one h1 h2 hd).congr fun l f=>by rw[iP o]};{rcases(show k=0\/k=1 from o)with rfl|rfl;{exact one 0 1 o o o rfl};·exact one 1 0 o o o rfl};·rcases(show k=0\/k=1\/k=2 from o)with rfl|rfl|rfl;{exact c 0 1 2 o o o o o o rfl};{exact c 1 0 2 o o o o o o rfl};·exact c 2 0 1 o o o o o o rfl
def C20{u:Nat->Rat}(h1:1<=v)(h2:v<=2)(hd:d<=3)(hs:s<=3)(hsd:s<=d+1)(hy:PtD s v y)(hu:∀l,l<s->0<u l):Ptw s (nM v d) u (wV y v d):=by have h:∀k,∃q:Nat->Rat,k<s->∀l,l<s->sm (nM v d) (fun i=>wV y v d l i*q i)=if l=k then 1 else 0:=fun k=>by{by_cases c:k<s;{obtain⟨q,f⟩:=B34 h1 h2 hd hs hsd hy c;exact⟨q,fun _=>f⟩};·exact⟨fun _=>0,fun h=>absurd h c⟩};exact⟨hu,fun k=>Classical.choose (h k),fun l k e c=>Classical.choose_spec (h k) c l e⟩
end
def A7e{M:Nat->Nat->Rat}{n:Nat}(hn:1<=n)(h0:M 0 0≠0):∀c,1<=(ecE M n (c+1)).cs.length/\(ecE M n (c+1)).cs.getD 0 0=0:=by
 intro c
 induction c with
 |zero=>
  have e:ecE M n 1=Al n 0 ⟨M,[],1⟩:=rfl;have d:Hj n 0 ⟨M,[],1⟩=0:=Ya _ (aC _) o (fun j _ f=>o) fun _=>by simpa using h0
  rw[e];unfold Al;rw[iP (show([]:List Nat).length<n from hn),d,iP o];exact⟨aC _,rfl⟩
 |succ c ih=>
  have e:ecE M n (c+1+1)=Al n (c+1) (ecE M n (c+1)):=rfl;rw[e];generalize ecE M n (c+1)=s at *;unfold Al;split
  ·split
   ·refine⟨by simp,?_⟩;show(s.cs++[c+1]).getD 0 0=0;rw[Og _ _ 0 o];exact ih.2
   ·exact ih
  ·exact ih
structure Pts (s v:Nat) (u:Nat->Rat) (y:Nat->Nat->Rat):Prop where
 s1:1<=s
 s3:s<=3
 v1:1<=v
 v2:v<=2
 dif:PtD s v y
 pos:∀ l,l<s->0<u l
def bB(V:Nat->Rat)(y:Nat->Nat->Rat)(v d:Nat):Nat->Nat->Rat:=fun l t=>wV y v d l ((pvL V v d).getD t 0)
section
variable {s v d D:Nat} {u:Nat->Rat} {y:Nat->Nat->Rat}
def Pts.mom(p:Pts s v u y)(hd:d<=3)(hD:D<=6)(hdD:2*d<=D){i j:Nat}(hi:i<nM v d)(hj:j<nM v d):Bu (ptV s u y v D) v d i j=gM s u (wV y v d) i j:=C21 s u y p.v1 p.v2 hd hD hdD hi hj
def Pts.cs(p:Pts s v u y)(hd:d<=3)(hD:D<=6)(hdD:2*d<=D):pvL (ptV s u y v D) v d=(ecE (gM s u (wV y v d)) (nM v d) (nM v d)).cs:=(Sf (n:=nM v d) (w:=nM v d) (fun i j e c=>p.mom hd hD hdD e c) _ (aC _)).1
def Pts.rk(p:Pts s v u y)(hd:d<=3)(hD:D<=6)(hdD:2*d<=D)(hs:s<=d+1):rkM (ptV s u y v D) v d=s:=by have h:=(C20 (d:=d) p.v1 p.v2 hd p.s3 hs p.dif p.pos).rank;rw[<- p.cs hd hD hdD]at h;exact h
def Pts.psd(p:Pts s v u y)(hd:d<=3)(hD:D<=6)(hdD:2*d<=D):psd (ptV s u y v D) v d:=B92 (s:=s) (u:=u) (fun l e=>Rat.le_of_lt (p.pos l e)) (wV y v d) fun i j f c=>by rw[K3 _ c,p.mom hd hD hdD f c]
def Pts.lt(p:Pts s v u y)(hd:d<=3)(V:Nat->Rat)(t:Nat):(pvL V v d).getD t 0<nM v d:=by by_cases h:t<rkM V v d;{exact Y8 V v d h};·have:=(Nt p.v1 p.v2 hd).1;rw[List.getD_eq_getElem?_getD,List.getElem?_eq_none (by unfold rkM at h;unfold pvL;omega)];exact this
def Pts.sq(p:Pts s v u y)(hd:d<=3)(hD:D<=6)(hdD:2*d<=D):sqM (ptV s u y v D) v d=gM s u (bB (ptV s u y v D) y v d):=funext fun i=>funext fun j=>p.mom hd hD hdD (p.lt hd _ i) (p.lt hd _ j)
def Pts.blk(p:Pts s v u y)(hd:d<=3)(hD:D<=6)(hdD:2*d<=D)(hr:rkM (ptV s u y v D) v d=s):Blk s u (bB (ptV s u y v D) y v d):=by have h:=Tf (V:=ptV s u y v D) p.v1 p.v2 hd hD hdD;rw[hr,p.sq hd hD hdD]at h;exact⟨p.pos,h⟩
def Pts.g0(p:Pts s v u y)(hd:d<=3):gM s u (wV y v d) 0 0≠0:=by have e:gM s u (wV y v d) 0 0=sm s fun l=>u l:=C5 fun l _=>by{rw[A43 p.v1 p.v2 hd,aW,aW]};rw[e];intro f;have:=Ed (fun l c=>Rat.le_of_lt (p.pos l c)) (by rw[f];exact Rat.le_refl) 0 p.s1;have:=p.pos 0 p.s1;grind
def Pts.b0(p:Pts s v u y)(hd:d<=3)(hD:D<=6)(hdD:2*d<=D)(l:Nat):bB (ptV s u y v D) y v d l 0=1:=by have e:=(Nt p.v1 p.v2 hd).1;have c:=p.g0 hd;unfold bB;rw[p.cs hd hD hdD,show nM v d=nM v d-1+1 from o];have:=(A7e (n:=nM v d-1+1) o c (nM v d-1)).2;rw[this];exact A43 p.v1 p.v2 hd l
def phi(F:Nat->Rat)(y:Nat->Nat->Rat)(v:Nat):Nat->Rat:=fun l=>sm v fun j=>F j*y l j
def C29(x:Nat->Rat){a b:List Int}{v j:Nat}(hv:v=1\/v=2)(ha:a.length=v)(hb:b.length=v)(hj:j<v)(pa:∀z∈a,0<=z)(pb:∀z∈b,0<=z):mvl x (mpx a b j) 0=x j*(mvl x a 0*mvl x b 0):=by
 rcases hv with rfl|rfl
 ·obtain⟨c,rfl⟩:=List.length_eq_one_iff.1 ha;obtain⟨b0,rfl⟩:=List.length_eq_one_iff.1 hb;obtain rfl:j=0:=o;have e:mpx [c] [b0] 0=[c+b0+1]:=rfl;have:=pa c (by simp);have:=pb b0 (by simp);rw[e,B8o,B8o,B8o,aT o o,aT o o,Ag,Ag];simp;grind
 ·obtain⟨c,a1,rfl⟩:∃c a1,a=[c,a1]:=by
   match a,ha with
   | [c,a1],_=>exact⟨c,a1,rfl⟩
  obtain⟨b0,b1,rfl⟩:∃b0 b1,b=[b0,b1]:=by
   match b,hb with
   | [b0,b1],_=>exact⟨b0,b1,rfl⟩
  have:=pa c (by simp);have:=pb b0 (by simp);have:=pa a1 (by simp);have:=pb b1 (by simp);rcases(show j=0\/j=1 from o)with rfl|rfl
  ·have e:mpx [c,a1] [b0,b1] 0=[c+b0+1,a1+b1]:=rfl;rw[e,B3e,B3e,B3e,aT o o,aT o o,aT o o,Ag,Ag,Ag];simp;grind
  ·have e:mpx [c,a1] [b0,b1] 1=[c+b0,a1+b1+1]:=rfl;rw[e,B3e,B3e,B3e,aT o o,aT o o,aT o o,Ag,Ag,Ag];simp;grind
def Pts.val(p:Pts s v u y)(hd:d<=2)(hD:D<=6)(hdD:2*d+2<=D)(F:Nat->Rat)(i k:Nat):Wb (ptV s u y v D) F v d i k=sm s fun l=>u l*phi F y v l*(bB (ptV s u y v D) y v d l i*bB (ptV s u y v D) y v d l k):=by have g:=p.lt (d:=d) o (ptV s u y v D) i;have c:=p.lt (d:=d) o (ptV s u y v D) k;obtain⟨q,n⟩:=Lj p.v1 p.v2 (show d<=6 from o) g;obtain⟨m,t⟩:=Lj p.v1 p.v2 (show d<=6 from o) c;have e:∀j,j<v->F j*ptV s u y v D (mi3 (bdr (ptV s u y v D) v d i) (bdr (ptV s u y v D) v d k) j)=sm s fun l=>F j*y l j*(u l*(bB (ptV s u y v D) y v d l i*bB (ptV s u y v D) y v d l k)):=fun j f=>by{have r:=mu3 p.v1 p.v2 hd hD o g c f;rw[show ptV s u y v D (mi3 (bdr (ptV s u y v D) v d i) (bdr (ptV s u y v D) v d k) j)=sm s fun l=>u l*mvl (y l) (mpx (bdr (ptV s u y v D) v d i) (bdr (ptV s u y v D) v d k) j) 0 by show(sm s fun l=>u l*mvl (y l) (mon v D (mi3 (mon v d ((pvL (ptV s u y v D) v d).getD i 0)) (mon v d ((pvL (ptV s u y v D) v d).getD k 0)) j)) 0)=_;rw[<- r.eq];rfl,<- J3];exact C5 fun l _=>by show _*(_*mvl (y l) (mpx (mon v d _) (mon v d _) j) 0)=_;rw[C29 (y l) (by have:=p.v1;have:=p.v2;omega) q m f n t];show _=_*(_*(mvl (y l) (mon v d _) 0*mvl (y l) (mon v d _) 0));grind};show(sm v fun j=>F j*_)=_;rw[C5 e,V5];refine C5 fun l _=>?_;rw[R4];show phi F y v l*_=_;grind
def Pts.fm(p:Pts s v u y)(hd:d<=2)(hD:D<=6)(hdD:2*d+2<=D)(hr:rkM (ptV s u y v D) v d=s)(F:Nat->Rat):fmM (ptV s u y v D) F v d=phM s u (phi F y v) (bB (ptV s u y v D) y v d):=by unfold fmM phM ivM;rw[hr,p.sq o hD o,show Wb (ptV s u y v D) F v d=fun i k=>sm s fun l=>u l*phi F y v l*(bB (ptV s u y v D) y v d l i*bB (ptV s u y v D) y v d l k)from funext fun i=>funext fun k=>p.val hd hD hdD F i k]
end
def A7a(P:Nat->Prop):∀c,P c->∃N,N<=c/\P N/\∀k,k<N->¬P k:=by
 intro c
 induction c using Nat.strongRecOn with
 |_ c ih=>
  intro i;by_cases h:∃k,k<c/\P k
  ·obtain⟨k,d,e⟩:=h;obtain⟨N,j,f,g⟩:=ih k d e;exact⟨N,o,f,g⟩
  ·exact⟨c,aC _,i,fun k d e=>h ⟨k,d,e⟩⟩
def Zd{C:Nat->Nat->Rat}{b:Nat->Rat}{s m:Nat}(hm:1<=m)(hC:∀i j,i<s->j<s->Sz m (C i j))(hb:∀i,i<s->Sz m (b i))(j:Nat):Sz (7^s*m) (Hi (fl C s) b s s j):=by refine A4f (m:=m) (Nq s m hm) (fun i j c d=>?_) j;refine(B72 (M:=mtx (J5 (fl C s) b s) (s+1)) (n:=s) (w:=s+1) (m:=m) (fun i j c d=>?_) hm o (aC _)).1 i j c d;exact Sc (rows:=s) (fun i c=>hC _ _ (bJ c) (cL _ (by rcases Nat.eq_zero_or_pos s with rfl|h<;>omega))) hb _ (R8 c d)
section
variable {s v d D:Nat} {u:Nat->Rat} {y:Nat->Nat->Rat}
def Kz(c:Nat)(y:Nat->Nat->Rat)(l:Nat):phi (frm c) y 1 l=y l 0/\phi (frm c) y 2 l=y l 0+(c:Rat)*y l 1:=by refine⟨?_,?_⟩;{show 0+(1:Rat)*y l 0=_;grind};·show 0+(1:Rat)*y l 0+(c:Rat)*1*y l 1=_;grind
def B8m{φ:Nat->Rat}(hs:s<=3)(h:¬Dis s φ):(2<=s/\φ 0=φ 1)\/(3<=s/\φ 0=φ 2)\/(3<=s/\φ 1=φ 2):=by refine aX fun d=>h fun k l g f c e=>d ?_;rcases(show k=0\/k=1\/k=2 from o)with rfl|rfl|rfl<;>rcases(show l=0\/l=1\/l=2 from o)with rfl|rfl|rfl;{exact absurd rfl c};{exact .inl ⟨o,e⟩};{exact .inr (.inl ⟨o,e⟩)};{exact .inl ⟨o,e.symm⟩};{exact absurd rfl c};{exact .inr (.inr ⟨o,e⟩)};{exact .inr (.inl ⟨o,e.symm⟩)};{exact .inr (.inr ⟨o,e.symm⟩)};·exact absurd rfl c
def Pts.dis(p:Pts s v u y):∃c,c<=3/\Dis s (phi (frm c) y v):=by have v1:=p.v1;have v2:=p.v2;rcases(show v=1\/v=2 from o)with rfl|rfl;{refine⟨0,o,fun k l z B j e=>?_⟩;rw[(Kz 0 y k).1,(Kz 0 y l).1]at e;obtain⟨i,hi,h⟩:=p.dif k l z B j;obtain rfl:i=0:=o;exact h e};·have C:∀(c e k l:Nat),c<e->k<s->l<s->k≠l->phi (frm c) y 2 k=phi (frm c) y 2 l->phi (frm e) y 2 k=phi (frm e) y 2 l->False:=fun c e k l A z B j h1 w=>by{rw[(Kz c y k).2,(Kz c y l).2]at h1;rw[(Kz e y k).2,(Kz e y l).2]at w;have hd:(c:Rat)≠(e:Rat):=fun q=>by{have:=Rat.natCast_inj.1 q;omega};have e1:y k 1=y l 1:=by{have:((c:Rat)-e)*(y k 1-y l 1)=0:=gz0;grind};have e0:y k 0=y l 0:=gz0;obtain⟨i,hi,h⟩:=p.dif k l z B j;rcases(show i=0\/i=1 from o)with rfl|rfl;{exact h e0};·exact h e1};refine aX fun hn=>?_;have m:∀c,c<=3->_:=fun c hc=>B8m p.s3 (φ:=phi (frm c) y 2) fun h=>hn ⟨c,hc,h⟩;have b0:=m 0 o;have d:=m 1 o;have g:=m 2 o;have f:=m 3 o;have key:∀(k l:Nat),k<s->l<s->k≠l->∀c e,c<e->¬(phi (frm c) y 2 k=phi (frm c) y 2 l/\phi (frm e) y 2 k=phi (frm e) y 2 l):=fun k l z B j c e A h=>C c e k l A z B j h.1 h.2;have s3:=p.s3;by_cases h3:s=3;{have n:=key 0 1 o o o;have t:=key 0 2 o o o;have r:=key 1 2 o o o;have N:=n 0 1 o;have M:=n 0 2 o;have X:=n 0 3 o;have V:=n 1 2 o;have W:=n 1 3 o;have G:=n 2 3 o;have T:=t 0 1 o;have F:=t 0 2 o;have H:=t 0 3 o;have D:=t 1 2 o;have Q:=t 1 3 o;have S:=t 2 3 o;have O:=r 0 1 o;have aa:=r 0 2 o;have E:=r 0 3 o;have ac:=r 1 2 o;have L:=r 1 3 o;have R:=r 2 3 o;clear C key n t r m hn;rcases b0 with⟨_,b0⟩|⟨_,b0⟩|⟨_,b0⟩<;>rcases d with⟨_,d⟩|⟨_,d⟩|⟨_,d⟩<;>rcases g with⟨_,g⟩|⟨_,g⟩|⟨_,g⟩<;>rcases f with⟨_,f⟩|⟨_,f⟩|⟨_,f⟩<;>first|exact N ⟨b0,d⟩|exact M ⟨b0,g⟩|exact X ⟨b0,f⟩|exact V ⟨d,g⟩|exact W ⟨d,f⟩|exact G ⟨g,f⟩|exact T ⟨b0,d⟩|exact F ⟨b0,g⟩|exact H ⟨b0,f⟩|exact D ⟨d,g⟩|exact Q ⟨d,f⟩|exact S ⟨g,f⟩|exact O ⟨b0,d⟩|exact aa ⟨b0,g⟩|exact E ⟨b0,f⟩|exact ac ⟨d,g⟩|exact L ⟨d,f⟩|exact R ⟨g,f⟩};·rcases b0 with⟨w,b0⟩|⟨w,_⟩|⟨w,_⟩;{rcases d with⟨_,d⟩|⟨w,_⟩|⟨w,_⟩;{exact key 0 1 o o o 0 1 o ⟨b0,d⟩};{omega};·omega};{omega};·omega
end
def B56:∀v:Fin 3,∀d:Fin 3,1<=v.val->∀i:Fin 6,i.val<nM v d->(mon v d i).all (fun z=>decide (0<=z/\z<=2))=true:=by decide +kernel
def Cw:Sz 1 (1:Rat):=⟨ZB.one (aC _),ZB.one (aC _)⟩
def B66{f:Nat->Rat}{w m:Nat}(hm:1<=m)(hs:∀i,i<w->Sz m (f i)):Sz (1+w*(2*m+1)) (sm w f):=by have:=Gk (f2:=fun _=>1) hs (fun i _=>Cw.mono hm) w (aC _);rwa [C5 (g:=f) fun i _=>aW _]at this
section
variable {s v d D:Nat} {u φ:Nat->Rat} {y:Nat->Nat->Rat}
def C3j(h1:1<=v)(h2:v<=2)(hd:d<=2){l i:Nat}(hy:∀j,j<v->Sz 2 (y l j))(hi:i<nM v d):Sz 10 (wV y v d l i):=by
 have g:=(Xu ⟨v,o⟩ ⟨d,o⟩ h1).2.2 hd;change nM v d<=6 at g;have:=B56 ⟨v,o⟩ ⟨d,o⟩ h1 ⟨i,o⟩ hi;simp only[bW,decide_eq_true_eq]at this;have f:=(Lj h1 h2 (show d<=6 from o) hi).1;unfold wV;generalize mon v d i=e at *;rcases(show v=1\/v=2 from o)with rfl|rfl
 ·obtain⟨c,rfl⟩:=List.length_eq_one_iff.1 f;have k:=this c (by simp);rw[B8o];exact((hy 0 o).pow o c.toNat).mono o
 ·obtain⟨c,a1,rfl⟩:∃c a1,e=[c,a1]:=by
   match e,f with
   | [c,a1],_=>exact⟨c,a1,rfl⟩
  have k:=this c (by simp);have m:=this a1 (by simp);rw[B3e];exact(((hy 0 o).pow o c.toNat).mul ((hy 1 o).pow o a1.toNat)).mono o
def C2d(h1:1<=s)(hs:s<=3)(hd:Dis s φ){x:Nat->Rat}(hx:∀l,l<s->pvl x s (φ l)=φ l^s)(hf:∀l,l<s->Sz 47 (φ l)):∀i,i<s->Sz 300 (x i):=by rcases(show s=1\/s=2\/s=3 from o)with rfl|rfl|rfl;{have e:=Xn o hd (x:=x) (y:=fun _=>φ 0) (fun l f=>by rw[hx l f];obtain rfl:l=0:=o;simp only[pvl,sm];grind);intro i g;rw[e i g];exact(hf 0 o).mono o};{have e:=Xn o hd (x:=x) (y:=fun i=>if i=0 then-(φ 0*φ 1)else φ 0+φ 1) (fun l f=>by rw[hx l f];simp only[pvl,sm];rcases(show l=0\/l=1 from o)with rfl|rfl<;>simp<;>grind);intro i g;rw[e i g];have d:=hf 0 o;have c:=hf 1 o;split;{exact(d.mul c).neg.mono o};·exact(d.add c).mono o};·have e:=Xn o hd (x:=x) (y:=fun i=>if i=0 then φ 0*φ 1*φ 2 else if i=1 then-(φ 0*φ 1+φ 0*φ 2+φ 1*φ 2)else φ 0+φ 1+φ 2) (fun l f=>by rw[hx l f];simp only[pvl,sm];rcases(show l=0\/l=1\/l=2 from o)with rfl|rfl|rfl<;>simp<;>grind);intro i g;rw[e i g];have d:=hf 0 o;have c:=hf 1 o;have j:=hf 2 o;split;{exact((d.mul c).mul j).mono o};·split;{exact(((d.mul c).add (d.mul j)).add (c.mul j)).neg.mono o};·exact((d.add c).add j).mono o
def B6i{P S:Nat->Rat}{deg k m p:Nat}(hk:k<=1000)(hP:∀i,i<=deg->Sz p (P i))(hS:∀j,j<k->Sz m (S j))(hm:10<=m):∀i,i<=k->i<=deg->Sz (1+i*(p+m+1)) (psT P deg S k i):=by
 intro i
 induction i with
 |zero=>intro _ _;exact Sz.zero o
 |succ i ih=>
  intro c d;have a:=ih o o
  have b:Sz m (if i+1=k then(k:Rat)else S (k-(i+1))):=by
   split;·exact(Ih hk).mono hm
   ·exact hS _ o
  have:=a.add ((hP (deg-(i+1)) o).mul b).neg;rw[<- Rat.sub_eq_add_neg]at this;refine this.mono ?_;rw[bV,bU];omega
structure Res (s v d D N:Nat) (u:Nat->Rat) (y:Nat->Nat->Rat):Prop where
 dis:Dis s (phi (frm N) y v)
 deg:Bg (fmM (ptV s u y v D) (frm N) v d) s=s
 min:∀ l,l<s->pvl (A0x (fmM (ptV s u y v D) (frm N) v d) s) s (phi (frm N) y v l)=phi (frm N) y v l^s
 coo:∀ j,j<v->∀ l,l<s->pvl (Yf (ptV s u y v D) v d (fmM (ptV s u y v D) (frm N) v d) j) s (phi (frm N) y v l)=y l j
 wgt:∀ l,l<s->pvl (wgX (ptV s u y v D) v d (fmM (ptV s u y v D) (frm N) v d) (An (fmM (ptV s u y v D) (frm N) v d) s) s) s (phi (frm N) y v l)=u l
 szP:∀ i,i<=s->Sz 300 (An (fmM (ptV s u y v D) (frm N) v d) s i)
 szM:∀ F:Nat->Rat,(∀ j,j<v->Sz 11 (F j))->∀ k,k<=3->∀ i j,i<s->j<s->Sz 12004 (phM s u (fun l=>phi F y v l^k) (bB (ptV s u y v D) y v d) i j)
 kb:∀ F:Nat->Rat,(∀ j,j<v->Sz 11 (F j))->KB (ptV s u y v D) F v d 20000
def Pts.xok(p:Pts s v u y)(hd:d<=2)(hD:D<=6)(hdD:2*d+2<=D)(rk:rkM (ptV s u y v D) v d=s)(hV:∀i,i<(mo v D).length->Sz 15 (ptV s u y v D i))(hy:∀l j,l<s->j<v->Sz 2 (y l j))(hu:∀l,l<s->Sz 40 (u l)):
 ∃N,N<=3/\XOk (ptV s u y v D) v d N 100000/\Res s v d D N u y:=by
 have W:=p.s1;have s3:=p.s3;have v1:=p.v1;have T:=p.v2;have blk:=p.blk (d:=d) (D:=D) o hD o rk;have b0:∀l,l<s->bB (ptV s u y v D) y v d l 0=1:=fun l _=>p.b0 o hD o l;have fm:=p.fm (D:=D) hd hD hdD rk;have val:=p.val (D:=D) hd hD hdD;have sq:=p.sq (d:=d) (D:=D) o hD o;have lt:=p.lt (d:=d) o (ptV s u y v D);have sB:∀l t,l<s->Sz 10 (bB (ptV s u y v D) y v d l t):=fun l t q=>C3j v1 T hd (fun j C=>hy l j q C) (lt t);have p3:3^s<=27:=aY (n:=3) dc s3;have p7:7^s<=343:=aY (n:=7) dc s3
 have R:∀m,3^s*bnd (s+s) m<=27*(1+7*m):=fun m=>aK p3 (by
  have:(s+s)*m<=6*m:=aE _ o;unfold bnd;omega);have aa:∀t l,t<s->l<s->Sz 2000 (duM s (bB (ptV s u y v D) y v d) t l):=fun t l ht q=>(A7d (m:=10) o (fun i f=>sB _ _ (bJ f)) blk.full t l ht q).mono (bG (R 10) dc)
 have E:∀F:Nat->Rat,(∀j,j<v->Sz 11 (F j))->∀l,l<s->Sz 47 (phi F y v l):=fun F L l q=>(Gk (w:=v) L (fun j C=>(hy l j q C).mono (show 2<=11 from o)) v (aC _)).mono (by
  have:v*(2*11+1)<=2*23:=aE _ T;omega);have sF:∀c,c<=3->∀j,j<v->Sz 11 (frm c j):=fun c hc j C=>(Xb o j).mono o
 have sU:∀k,∀j,j<v->Sz 11 (uni k j):=fun k j _=>by
  unfold uni;split;·exact Cw.mono o
  ·exact Sz.zero o
 have B:∀m,s*(2*m+1)<=3*(2*m+1):=fun m=>aE _ s3
 have sM:∀F:Nat->Rat,(∀j,j<v->Sz 11 (F j))->∀i k,i<s->k<s->Sz 12004 (phM s u (phi F y v) (bB (ptV s u y v D) y v d) i k):=fun F L i k f A=>by
  rw[blk.ph_eq _ A i f];exact(Gk (m:=2000) (w:=s) (fun l q=>aa i l f q) (fun l q=>((E F L l q).mul (sB l k q)).mono o) s (aC _)).mono (by have:=B 2000;omega)
 have sK:∀F:Nat->Rat,(∀j,j<v->Sz 11 (F j))->∀k,k<=s->∀i,i<s->Sz 12004 (kpw (phM s u (phi F y v) (bB (ptV s u y v D) y v d)) s k i):=fun F L k A i f=>by
  rw[blk.kpw_eq _ W b0 k i f];exact(Gk (m:=2000) (w:=s) (fun l q=>aa i l f q) (fun l q=>((E F L l q).pow o k).mono (by have:47*k<=47*3:=aN _ o;omega)) s (aC _)).mono (by have:=B 2000;omega)
 have Q:∀F:Nat->Rat,(∀j,j<v->Sz 11 (F j))->∀i k,i<s->k<s->Sz 12004 (Wb (ptV s u y v D) F v d i k):=fun F L i k f A=>by
  refine(Gk (m:=15) (w:=v) (fun j C=>(L j C).mono o) (fun j C=>hV _ (mu3 v1 T hd hD o (lt i) (lt k) C).lt) v (aC _)).mono ?_;have:v*(2*15+1)<=2*31:=aE _ T;omega
 have ao:∀i k,i<s->k<s->Sz 12004 (ivM (ptV s u y v D) v d i k):=fun i k f A=>by
  unfold ivM;rw[rk];have inv:=Tf (V:=ptV s u y v D) (d:=d) (D:=D) v1 T o hD o;rw[rk]at inv;refine(A7d (m:=15) o (fun j C=>?_) inv i k f A).mono (bG (R 15) dc);exact hV _ (O2 v1 T o hD o (lt _) (lt _)).lt
 have ak:∀F:Nat->Rat,(∀j,j<v->Sz 11 (F j))->∀k,k<=3->∀i j,i<s->j<s->Sz 12004 (phM s u (fun l=>phi F y v l^k) (bB (ptV s u y v D) y v d) i j):=fun F L k A i j f C=>by
  rw[blk.ph_eq _ C i f];exact(Gk (m:=2000) (w:=s) (fun l q=>aa i l f q) (fun l q=>(((E F L l q).pow o k).mul (sB l j q)).mono (by have:47*k<=47*3:=aN _ A;omega)) s (aC _)).mono (by have:=B 2000;omega)
 have ae:∀mq,12004<=mq->∀F:Nat->Rat,(∀j,j<v->Sz 11 (F j))->KB (ptV s u y v D) F v d mq:=fun mq ar F L=>by
  refine⟨fun i k f A=>?_,fun i k f A=>?_,fun i k f A=>?_,fun k A i f=>?_⟩;·rw[rk]at f A;exact(ao i k f A).mono o
  ·rw[rk]at f A;exact(Q F L i k f A).mono o
  ·rw[rk]at f A;rw[fm];exact(sM F L i k f A).mono o
  ·rw[rk]at f A;rw[fm,rk];exact(sK F L k A i f).mono o
 have kb:=ae 100000 o;obtain⟨c,hc,ad⟩:=p.dis;obtain⟨N,hN,yes,no⟩:=A7a (fun c=>Bg (fmM (ptV s u y v D) (frm c) v d) s=s) c (by rw[fm];exact blk.deg W s3 b0 ad);have ac:N<=3:=o;have G:Bg (phM s u (phi (frm N) y v) (bB (ptV s u y v D) y v d)) s=s:=by rw[<- fm];exact yes
 have dis:=blk.dis W b0 G;have ai:=sF N ac;have slv:=fun z=>blk.slv W b0 G z;have af:=sK (frm N) ai;have X:∀i j,i<s->j<s->Sz 12004 (Dj (kpw (phM s u (phi (frm N) y v) (bB (ptV s u y v D) y v d)) s) i j):=fun i j f C=>af j o i f;have big:∀m,m<=20000->7^s*m<=10000000:=fun m hm=>bG (aK p7 hm) dc
 have mx:A0x (phM s u (phi (frm N) y v) (bB (ptV s u y v D) y v d)) s=Hi (fl (Dj (kpw (phM s u (phi (frm N) y v) (bB (ptV s u y v D) y v d)) s)) s) (kpw (phM s u (phi (frm N) y v) (bB (ptV s u y v D) y v d)) s s) s s:=by
  unfold A0x;rw[G]
 have O:∀l,l<s->pvl (A0x (phM s u (phi (frm N) y v) (bB (ptV s u y v D) y v d)) s) s (phi (frm N) y v l)=phi (frm N) y v l^s:=fun l q=>by
  rw[mx,(slv _).2 l q,blk.pow _ W b0 s l q]
 have M:=E (frm N) ai;have S:=C2d W s3 dis O M
 have eP:An (phM s u (phi (frm N) y v) (bB (ptV s u y v D) y v d)) s=fun i=>if i=s then(1:Rat)else-A0x (phM s u (phi (frm N) y v) (bB (ptV s u y v D) y v d)) s i:=by
  unfold An;rw[G]
 have sP:∀i,i<=s->Sz 300 (An (phM s u (phi (frm N) y v) (bB (ptV s u y v D) y v d)) s i):=fun i f=>by
  rw[eP];dsimp only;split;·exact Cw.mono o
  ·exact(S i o).neg
 have eS:=C4r W s3 dis O;rw[<- eP]at eS;dsimp only at eS
 have sS:∀k,k<2*s-1->Sz 1200 (ps (An (phM s u (phi (frm N) y v) (bB (ptV s u y v D) y v d)) s) s k):=fun k A=>by
  rw[eS k A];refine(B66 (m:=189) o (fun l q=>((M l q).pow o k).mono ?_)).mono (by have:=B 189;omega);have:47*k<=47*4:=aN _ o;omega
 have an:∀j,j<s->ptV s u y v D ((pvL (ptV s u y v D) v d).getD j 0)=sm s fun l=>u l*bB (ptV s u y v D) y v d l j:=fun j _=>by
  have e:=(O2 v1 T (show d<=3 from o) hD (show 2*d<=D from o) (lt j) (lt j)).same;show(sm s fun l=>u l*mvl (y l) (mon v D _) 0)=_;rw[<- e];rfl
 have ah:∀i,i<s->rgt (ptV s u y v D) v d (phM s u (phi (frm N) y v) (bB (ptV s u y v D) y v d)) i=sm s fun l=>u l*phi (frm N) y v l^i:=fun i f=>by
  unfold rgt rgS;rw[rk,C5 (g:=fun j=>sm s (fun l=>u l*bB (ptV s u y v D) y v d l j)*kpw (phM s u (phi (frm N) y v) (bB (ptV s u y v D) y v d)) s i j) fun j C=>by rw[an j C],<- M0];exact C5 fun l q=>by rw[blk.pow _ W b0 i l q]
 have ap:∀l m,l<s->m<s->pvl (fun j=>Hi (fl (Dj (kpw (phM s u (phi (frm N) y v) (bB (ptV s u y v D) y v d)) s)) s) (fun t=>duM s (bB (ptV s u y v D) y v d) t m) s s j) s (phi (frm N) y v l)=if l=m then 1 else 0:=fun l m q hm=>by
  have:=(slv fun t=>duM s (bB (ptV s u y v D) y v d) t m).2 l q;rw[blk.du q hm]at this;exact this
 have wg:=C5x s3 dis (fun j m=>Hi (fl (Dj (kpw (phM s u (phi (frm N) y v) (bB (ptV s u y v D) y v d)) s)) s) (fun t=>duM s (bB (ptV s u y v D) y v d) t m) s s j) ap (H:=hkl (An (phM s u (phi (frm N) y v) (bB (ptV s u y v D) y v d)) s) s) (fun i k f A=>eS (i+k) o) (u:=u) (r:=rgt (ptV s u y v D) v d (phM s u (phi (frm N) y v) (bB (ptV s u y v D) y v d))) ah
 have al:∀i,i<s->Sz 600 (rgt (ptV s u y v D) v d (phM s u (phi (frm N) y v) (bB (ptV s u y v D) y v d)) i):=fun i f=>by
  rw[ah i f];refine(Gk (m:=95) (w:=s) (fun l q=>(hu l q).mono o) (fun l q=>((M l q).pow o i).mono ?_) s (aC _)).mono (by have:=B 95;omega);have:47*i<=47*2:=aN _ o;omega
 refine⟨N,ac,?_,⟨dis,yes,by rw[fm];exact O,fun j C l q=>?_,fun l q=>?_,by rw[fm];exact sP,ak,ae 20000 o⟩⟩;rotate_left
 ·unfold Yf;rw[rk,fm,fm,(slv _).2 l q,blk.mult _ q o,b0 l q,aW];show sm v (fun k=>uni j k*y l k)=_;rw[N6 C fun k _ aj=>by show(if k=j then(1:Rat)else 0)*_=0;rw[iN aj,aV]];show(if j=j then(1:Rat)else 0)*_=_;rw[iP rfl,aZ]
 ·rw[fm];unfold wgX;rw[rk];exact wg.2 l q
 refine { n9:=o,q1:=dc,q2:=dc,sb:=?_,kb:=fun k A=>kb _ (sF k o),ku:=fun j C i k f A=>?_,no:=?_,yes:=?_,min:=?_,minS:=?_,coo:=?_,cooS:=?_,sP:=?_,sS:=?_,sT:=?_,sR:=?_,wok:=?_,wS:=?_ }
 ·intro n hn;rw[rk]at hn;have h3:3^n<=27:=aY (n:=3) dc (show n<=3 from o);have h7:7^n<=343:=aY (n:=7) dc (show n<=3 from o);have hb:bnd (n+1) 100000<=500001:=by unfold bnd;omega
  have:=aK h3 hb;exact⟨o,bG (aE _ h7) dc⟩
 ·rw[rk]at f A;rw[fm];exact⟨(Q _ (sU j) i k f A).mono o,(sM _ (sU j) i 0 f o).mono o⟩
 ·rw[rk];exact no
 ·rw[rk];exact yes
 ·rw[rk,fm];exact(slv _).1
 ·intro i f;rw[rk]at f;rw[fm,rk];exact(S i f).mono o
 ·intro j C;rw[rk,fm,fm];exact(slv _).1
 ·intro j C i f;unfold Yf;rw[rk,fm,fm];exact(Zd (m:=12004) o X (fun i f=>sM _ (sU j) i 0 f o) i).mono (big _ o)
 ·intro i f;rw[rk]at f;rw[fm,rk];exact(sP i f).mono o
 ·intro k A;rw[rk]at A;rw[fm,rk];exact(sS k A).mono o
 ·intro k i A am ag;rw[rk]at A ag;rw[fm,rk];refine(B6i (p:=300) (m:=1200) o sP (fun j C=>sS j o) o i am ag).mono ?_;have:i*(300+1200+1)<=3*1501:=aE _ o;omega
 ·intro i n f hn;rw[rk]at f hn;rw[fm];unfold rgS;rw[rk];refine(Gk (m:=12004) (w:=n) (fun j C=>(hV _ ?_).mono o) (fun j C=>af i o j o) n (aC _)).mono ?_
  ·have e:=O2 v1 T (show d<=3 from o) hD (show 2*d<=D from o) (lt j) (lt 0);have aq:∀v:Fin 3,∀d:Fin 3,∀D:Fin 7,d.val<=D.val->nM v d<=(mo v D).length:=by decide +kernel
   have:=aq ⟨v,o⟩ ⟨d,o⟩ ⟨D,o⟩ (by dsimp only;omega);have:=lt j;dsimp only at *;omega
  ·have:n*(2*12004+1)<=3*24009:=aE _ o;omega
 ·rw[fm,rk];exact wg.1
 ·intro i f;rw[fm,rk];unfold wgX;rw[rk];exact(Zd (m:=1200) o (fun i j f C=>sS (i+j) o) (fun i f=>(al i f).mono o) i).mono (big _ o)
end
def utP:Nat->Nat->Rat:=fun i j=>if i=j then 1 else 0
def mpw(M:Nat->Nat->Rat)(r:Nat):Nat->Nat->Nat->Rat
 |0=>utP
 |k+1=>Dh r (mpw M r k) M
def B7q(f:Nat->Rat):∀n,sm (n+1) f=f 0+sm n fun t=>f (t+1):=by
 intro n
 induction n with
 |zero=>show(0:Rat)+f 0=f 0+0;grind
 |succ n ih=>show sm (n+1) f+f (n+1)=f 0+(sm n _+f (n+1));rw[ih];grind
def Fh(r:Nat)(A B C:Nat->Nat->Rat)(i j:Nat):Dh r (Dh r A B) C i j=Dh r A (Dh r B C) i j:=(M0 (fun s=>A i s) B fun t=>C t j).symm
section
variable {r n:Nat} {M T:Nat->Nat->Rat} {x:Nat->Rat}
def Sk(M:Nat->Nat->Rat){i j:Nat}(hj:j<r):Dh r M utP i j=M i j:=by show sm r (fun t=>M i t*utP t j)=_;rw[N6 hj fun k _ c=>by unfold utP;rw[iN c,aQ]];unfold utP;rw[iP rfl,aW]
def Sj(M:Nat->Nat->Rat){i j:Nat}(hi:i<r):Dh r utP M i j=M i j:=by show sm r (fun t=>utP i t*M t j)=_;rw[N6 hi fun k _ c=>by unfold utP;rw[iN (Ne.symm c),aV]];unfold utP;rw[iP rfl,aZ]
def B4u:∀k,∀i j,i<r->j<r->Dh r M (mpw M r k) i j=mpw M r (k+1) i j:=by
 intro k
 induction k with
 |zero=>
  intro i j c d;rw[show mpw M r 0=utP from rfl,Sk M d];exact(Sj M c).symm
 |succ k ih=>
  intro i j c d;show Dh r M (Dh r (mpw M r k) M) i j=Dh r (mpw M r (k+1)) M i j;rw[<- Fh];exact C5 fun t e=>by rw[ih i t c e]
def Li(h0:0<r):∀k i,i<r->mpw M r k i 0=kpw M r k i:=by
 intro k
 induction k with
 |zero=>intro i _;rfl
 |succ k ih=>
  intro i c;rw[<- B4u k i 0 c h0];exact C5 fun t d=>by rw[ih t d]
structure Cyc (r:Nat) (P:(Nat->Nat->Rat)->Prop):Prop where
 one:P utP
 mul:∀ X Y,P X->P Y->P (Dh r X Y)
 lin:∀ X Y c,P X->P Y->P (fun i j=>X i j+c*Y i j)
 good:∀ Z,P Z->(∀ i,i<r->Z i 0=0)->∀ i j,i<r->j<r->Z i j=0
def Cyc.pow{P:(Nat->Nat->Rat)->Prop}(c:Cyc r P)(hM:P M):∀k,P (mpw M r k):=by
 intro k
 induction k with
 |zero=>exact c.one
 |succ k ih=>exact c.mul _ _ ih hM
def Cyc.sum{P:(Nat->Nat->Rat)->Prop}(c:Cyc r P){X:Nat->Nat->Rat}(hX:P X)(f:Nat->Nat->Nat->Rat)(hf:∀k,P (f k))(x:Nat->Rat):∀n,P (fun i j=>X i j+sm n fun k=>x k*f k i j):=by
 intro n
 induction n with
 |zero=>
  have e:(fun i j=>X i j+sm 0 fun k=>x k*f k i j)=X:=funext fun i=>funext fun j=>by show X i j+0=_;rw[cQ]
  rw[e];exact hX
 |succ n ih=>
  have e:(fun i j=>X i j+sm (n+1) fun k=>x k*f k i j)=fun i j=>(X i j+sm n fun k=>x k*f k i j)+x n*f n i j:=funext fun i=>funext fun j=>by
   show X i j+(_+_)=_;rw[Rat.add_assoc]
  rw[e];exact c.lin _ _ _ ih (hf n)
def Cyc.lift{P:(Nat->Nat->Rat)->Prop}(c:Cyc r P)(h0:0<r)(hM:P M)(hT:P T)(h:∀i,i<r->sm n (fun t=>kpw M r t i*x t)=T i 0):∀i j,i<r->j<r->sm n (fun t=>mpw M r t i j*x t)=T i j:=fun i j d e=>by have:=c.good _ (c.sum hT (mpw M r) (c.pow hM) (fun k=>- x k) n) (fun i d=>by show T i 0+_=0;rw[<- h i d,C5 (f:=fun k=>- x k*mpw M r k i 0) (g:=fun k=>- (kpw M r k i*x k)) fun k _=>by rw[Li h0 k i d];grind,Hh];grind) i j d e;rw[C5 (f:=fun k=>- x k*mpw M r k i j) (g:=fun k=>- (mpw M r k i j*x k)) fun k _=>gz0,Hh]at this;grind
def Dep(M:Nat->Nat->Rat)(r n:Nat):Prop:=∃x:Nat->Rat,∀i,i<r->sm n (fun t=>kpw M r t i*x t)=kpw M r n i
def Ind(M:Nat->Nat->Rat)(r n:Nat):Prop:=∀x:Nat->Rat,(∀i,i<r->sm n (fun t=>kpw M r t i*x t)=0)->∀t,t<n->x t=0
def B62(x:Nat->Rat):∀n,(∃t,t<n/\x t≠0)->∃k,k<n/\x k≠0/\∀t,k<t->t<n->x t=0:=by
 intro n
 induction n with
 |zero=>rintro⟨t,j,_⟩;omega
 |succ n ih=>
  intro h;by_cases e:x n=0
  ·obtain⟨t,j,f⟩:=h
   have c:t<n:=by
    by_cases q:t=n;·subst q;exact absurd e f
    ·omega
   obtain⟨k,i,d,l⟩:=ih ⟨t,c,f⟩;refine⟨k,o,d,fun t g m=>?_⟩;by_cases q:t=n;·subst q;exact e
   ·exact l t g o
  ·exact⟨n,o,e,fun t i d=>o⟩
def B74{k:Nat}(hk:k<n)(hx:x k≠0)(hz:∀t,k<t->t<n->x t=0)(h:∀i,i<r->sm n (fun t=>kpw M r t i*x t)=0):Dep M r k:=by refine⟨fun t=>- x t/x k,fun i d=>?_⟩;have e:sm n (fun t=>kpw M r t i*x t)=sm k (fun t=>kpw M r t i*x t)+kpw M r k i*x k:=by{obtain⟨q,rfl⟩:∃q,n=(k+1)+q:=⟨n-(k+1),o⟩;rw[C0h (k+1),K7 (f:=fun j=>kpw M r (k+1+j) i*x (k+1+j)) fun j l=>by rw[hz _ o o,aQ],cQ];rfl};have c:=h i d;rw[e]at c;rw[C5 (g:=fun t=>- (1/x k)*(kpw M r t i*x t)) fun t _=>gz0,J3];grind
def Ind.of(h:∀k,k<n->¬Dep M r k):Ind M r n:=fun x i t f=>aX fun e=>by obtain⟨k,c,d,g⟩:=B62 x n ⟨t,f,e⟩;exact h k c (B74 c d g i)
def B2k(h0:0<r)(M:Nat->Nat->Rat):∃n0,1<=n0/\n0<=r/\Dep M r n0/\∀k,k<n0->¬Dep M r k:=by obtain⟨x,⟨t,l,c⟩,n⟩:=In (s:=r) (r:=r+1) o (fun i t=>kpw M r t i);obtain⟨k,j,g,m⟩:=B62 x (r+1) ⟨t,l,c⟩;obtain⟨n0,p,d,f⟩:=A7a (Dep M r) k (B74 j g m n);refine⟨n0,?_,o,d,f⟩;refine aX fun no=>?_;obtain rfl:n0=0:=o;obtain⟨x,c⟩:=d;have:=c 0 h0;have e:(0:Rat)=1:=this;exact absurd e dc
def A0g{n0:Nat}(h1:1<=n0)(hd:Dep M r n0):∀m,∃c:Nat->Rat,∀i,i<r->sm n0 (fun t=>kpw M r t i*c t)=kpw M r m i:=by
 obtain⟨p,rfl⟩:∃p,n0=p+1:=⟨n0-1,o⟩;obtain⟨x,u⟩:=hd;intro m
 induction m with
 |zero=>
  refine⟨fun t=>if t=0 then 1 else 0,fun i e=>?_⟩;rw[N6 (k:=0) o fun t _ d=>by dsimp only;rw[iN d,aQ]];dsimp only;rw[iP rfl,aW]
 |succ m ih=>
  obtain⟨c,q⟩:=ih;refine⟨fun t=>(if t=0 then 0 else c (t-1))+c p*x t,fun i e=>?_⟩
  have f:kpw M r (m+1) i=sm (p+1) fun t=>kpw M r (t+1) i*c t:=by
   show sm r (fun s=>M i s*kpw M r m s)=_;rw[C5 (g:=fun s=>M i s*sm (p+1) fun t=>kpw M r t s*c t) fun s n=>by rw[q s n]];exact M0 (fun s=>M i s) (fun s t=>kpw M r t s) c
  have l:sm (p+1) (fun t=>kpw M r t i*((if t=0 then 0 else c (t-1))+c p*x t))=sm (p+1) (fun t=>kpw M r t i*(if t=0 then 0 else c (t-1)))+c p*sm (p+1) (fun t=>kpw M r t i*x t):=by
   rw[<- J3,<- Y7];exact C5 fun t _=>by grind
  have j:sm (p+1) (fun t=>kpw M r t i*(if t=0 then 0 else c (t-1)))=sm p fun t=>kpw M r (t+1) i*c t:=by
   rw[B7q,iP rfl,aQ,cN];exact C5 fun t _=>by rw[iN o,Nat.add_sub_cancel]
  rw[l,j,u i e,f];show _=sm p _+kpw M r (p+1) i*c p;rw[cP (c p)]
def Sg{n0:Nat}(hn:n0<=r)(hi:Ind M r n0)(hs:∀m,∃c:Nat->Rat,∀i,i<r->sm n0 (fun t=>kpw M r t i*c t)=kpw M r m i):Bg M r=n0:=by have C:=A53 (Dj (kpw M r)) r;have eq:=EqA.run (n:=r) (w:=r) (Dj (kpw M r)) r (aC r);obtain⟨B,E,_⟩:=eq.elim;obtain⟨T,G⟩:=eq.comb;change ∀i j,i<r->j<r->(ecE (Dj (kpw M r)) r r).R i j=_ at G;change Elim r r B (ecE (Dj (kpw M r)) r r).R (fun m=>(ecE (Dj (kpw M r)) r r).cs.getD m 0) (ecE (Dj (kpw M r)) r r).cs.length at E;have A:∀k,k<(ecE (Dj (kpw M r)) r r).cs.length->(ecE (Dj (kpw M r)) r r).cs.getD k 0<r:=fun k L=>eq.lt _ (O0 L);have H:=E.kn;show(ecE (Dj (kpw M r)) r r).cs.length=n0;generalize ecE (Dj (kpw M r)) r r=s at *;rcases Nat.lt_trichotomy s.cs.length n0 with h|h|h;{exfalso;obtain⟨z,⟨t,p,f⟩,F⟩:=In h fun m j=>s.R m j;refine f (hi z (fun i d=>?_) t p);rw[C5 (g:=fun j=>(sm s.cs.length fun m=>Dj (kpw M r) i (s.cs.getD m 0)*s.R m j)*z j) fun j Q=>by rw[<- C i d j o];rfl];rw[<- M0];exact K7 fun m u=>by rw[F m u,aQ]};{exact h};·exfalso;have D:∀m,∃c:Nat->Rat,∀i,i<r->sm n0 (fun t=>kpw M r t i*c t)=kpw M r (s.cs.getD m 0) i:=fun m=>hs _;obtain⟨c,D⟩:=Classical.axiomOfChoice D;obtain⟨z,⟨t,p,f⟩,F⟩:=In h fun t m=>c m t;refine f ?_;have zero:∀i,i<r->sm s.cs.length (fun m=>Dj (kpw M r) i (s.cs.getD m 0)*z m)=0:=fun i d=>by{rw[C5 (g:=fun m=>(sm n0 fun q=>kpw M r q i*c m q)*z m) fun m _=>by rw[D m i d];rfl];rw[<- M0 (fun q=>kpw M r q i) (fun q m=>c m q) z];exact K7 fun q N=>by rw[F q N,aQ]};have e:sm s.cs.length (fun m=>s.R t (s.cs.getD m 0)*z m)=z t:=by{rw[N6 p fun m u y=>by rw[E.piv t m p u,iN (Ne.symm y),aV],E.piv t t p p,iP rfl,aZ]};rw[<- e,C5 (g:=fun m=>(sm r fun l=>T t l*Dj (kpw M r) l (s.cs.getD m 0))*z m) fun m u=>by rw[G t _ o (A m u)]];rw[<- M0];exact K7 fun l O=>by rw[zero l O,aQ]
def A6k{E b:Nat->Rat}{rows cols:Nat}(x:Nat->Rat)(h:∀i,i<rows->sm cols (fun j=>mtx E cols i j*x j)=b i)(hi:∀z:Nat->Rat,(∀i,i<rows->sm cols (fun j=>mtx E cols i j*z j)=0)->∀t,t<cols->z t=0):S0 E b rows cols/\∀t,t<cols->Hi E b rows cols t=x t:=by have ok:=Xf x h;refine⟨ok,fun t d=>?_⟩;have:=hi (fun t=>Hi E b rows cols t + - x t) (fun i c=>by rw[C5 (g:=fun j=>mtx E cols i j*Hi E b rows cols j + - (mtx E cols i j*x j)) fun j _=>gz0,Y7,Hh,Th ok c,h i c];grind) t d;grind
abbrev pgE(M:Nat->Nat->Rat)(r n:Nat):Nat->Rat:=fl (Dj (kpw M r)) n
def rfM(M:Nat->Nat->Rat)(r:Nat):Nat->Nat->Rat:=fun a k=>mpw M r k (a/r) (a%r)
abbrev rfE(M:Nat->Nat->Rat)(r n:Nat):Nat->Rat:=fl (rfM M r) n
def rfB(T:Nat->Nat->Rat)(r:Nat):Nat->Rat:=fun a=>T (a/r) (a%r)
def A70(hi:Ind M r n){b:Nat->Rat}(h:∀i,i<r->sm n (fun t=>kpw M r t i*x t)=b i):S0 (pgE M r n) b r n/\∀t,t<n->Hi (pgE M r n) b r n t=x t:=A6k x (fun i c=>by rw[<- h i c];exact C5 fun t d=>by rw[K3 _ d];rfl) fun z e=>hi z fun i c=>by rw[<- e i c];exact C5 fun t d=>by rw[K3 _ d];rfl
def B6a(h0:0<r){i:Nat}(hi:i<r):i*r<r*r/\i*r/r=i/\i*r%r=0:=⟨Nat.mul_lt_mul_of_pos_right hi h0,Nat.mul_div_cancel _ h0,Nat.mul_mod_left _ _⟩
def B69{P:(Nat->Nat->Rat)->Prop}(c:Cyc r P)(h0:0<r)(hM:P M)(hT:P T)(hi:Ind M r n)(h:∀i,i<r->sm n (fun t=>kpw M r t i*x t)=T i 0):S0 (rfE M r n) (rfB T r) (r*r) n/\∀t,t<n->Hi (rfE M r n) (rfB T r) (r*r) n t=x t:=by have L:=c.lift h0 hM hT h;refine A6k x (fun a j=>?_) fun z l=>hi z fun i d=>?_;{rw[show rfB T r a=T (a/r) (a%r)from rfl,<- L (a/r) (a%r) (bJ j) (cL _ h0)];exact C5 fun t e=>by rw[K3 _ e];rfl};·obtain⟨f,g,k⟩:=B6a h0 d;rw[<- l _ f];exact C5 fun t e=>by rw[K3 _ e];show _=mpw M r t (i*r/r) (i*r%r)*_;rw[g,k,Li h0 t i d]
def C0o(h0:0<r)(ok:S0 (rfE M r n) (rfB (mpw M r n) r) (r*r) n):Dep M r n:=by refine⟨Hi (rfE M r n) (rfB (mpw M r n) r) (r*r) n,fun i c=>?_⟩;obtain⟨f,d,e⟩:=B6a h0 c;have:=Th ok f;rw[show rfB (mpw M r n) r (i*r)=mpw M r n (i*r/r) (i*r%r)from rfl,d,e,Li h0 n i c]at this;rw[<- this];exact C5 fun t g=>by rw[K3 _ g];show _=mpw M r t (i*r/r) (i*r%r)*_;rw[d,e,Li h0 t i c]
end
section
set_option maxRecDepth 100000
variable {h:aH} {K:VP}
end
def pmv(x:Nat->Rat)(e:List Int):Nat->Rat
 |0=>1
 |k+1=>pmv x e k*x k^(e.getD k 0).toNat
def B13(x:Nat->Rat){e:List Int}{v:Nat}(h1:1<=v)(h2:v<=2)(hl:e.length=v):pmv x e v=mvl x e 0:=by
 rcases(show v=1\/v=2 from o)with rfl|rfl
 ·obtain⟨c,rfl⟩:=List.length_eq_one_iff.1 hl;simp[pmv,mvl]
 ·obtain⟨c,a1,rfl⟩:∃c a1,e=[c,a1]:=by
   match e,hl with
   | [c,a1],_=>exact⟨c,a1,rfl⟩
  simp[pmv,mvl]
structure TRm where
 w:QV
 B:Option aL
 n:Nat
 c:Nat
instance:Enc TRm:=⟨⟨fun x=>[.bool x.w.s,.slice x.w.A x.w.n x.w.c,.bool x.w.s2,.slice x.w.A2 x.w.n2 x.w.c2,.slice x.B x.n x.c],5,fun _=>rfl,fun x v hv=>by simp at hv;rcases hv with rfl|rfl|rfl|rfl|rfl<;>rfl⟩⟩
abbrev RTr:aH->TRm->Sa->Prop:=fun h w t=>NQ h w.w (rv t.1)/\w.n=t.2.length/\SlI .i64 h w.B t.2
def A8r:Mon RTr:=fun _ _ _ _ l i=>⟨NQ.mono l i.1,i.2.1,i.2.2.mono l⟩
section
variable {h:aH} {K:VP} {A B XA WA:Option aL} {c cc n m v D:Nat} {f:Nat->Rat} {tt:Nat->Sa}
def RowV.rt(r:aM RTr h A n tt){i:Nat}(hi:i<n):∃a w,A=some a/\RTr h w (tt i)/\h.cell? (aF (aF (aF a (i*5)) 0) 0)=some (.bool w.w.s)/\h.cell? (aF (aF (aF a (i*5)) 0) 1)=some (.slice w.w.A w.w.n w.w.c)/\h.cell? (aF (aF (aF a (i*5)) 0) 2)=some (.bool w.w.s2)/\h.cell? (aF (aF (aF a (i*5)) 0) 3)=some (.slice w.w.A2 w.w.n2 w.w.c2)/\h.cell? (aF (aF a (i*5)) 4)=some (.slice w.B w.n w.c):=by obtain⟨a,w,e,f,d⟩:=r.at dc hi;have z:=Fu (aF a (i*5));refine⟨a,w,e,f,?_,?_,?_,?_,d 4 _ rfl⟩;{rw[z];exact d 0 _ rfl};{rw[z];exact d 1 _ rfl};{rw[z];exact d 2 _ rfl};·rw[z];exact d 3 _ rfl
def A4k(r:aM RTr h A 1 tt)(hq:rv (tt 0).1≠0)(hc:1<=c)(hK:∀A' c' h',h.le h'->aM RTr h' A' 1 tt->K (.agg #[I (v:Int),.slice A' 1 c']) h'):aO prog 37 #[I (v:Int),.slice A 1 c] h K:=by refine(fnk func37 [(4,[7],[(6,2)],[I 0,I 0,.slice none 0 0]),(7,[9],[(8,4)],[I 0,.bool false,.slice none 0 0,.bool false,.slice none 0 0])] (own:=[4,6,8]) (wr:=[1000000000])) ?_;refine(fnk func81 [(6,[5,6,7],[],[.slice none 0 0,I 0,I 0])] (os:=[(3,[0,1,2,3,4,6,7,8,9,10,5,11,12,13])])) ?_;refine C1 (fun _=>?_) (fun no=>o);refine⟨_,_,_,rfl,?_⟩;refine⟨fun L D=>∃(i:Nat) (A':Option aL) (c':Nat),i<=1/\L=[I (i:Int),I (v:Int),.slice A' i c']/\Lst RTr 86 h D A' c' i tt,fun L _=>1-(iAt L 0).toNat,⟨0,_,_,o,rfl,Lst.nil⟩,?_⟩;rintro z p0 T F W D ⟨i,A',c',X,l,L⟩;simp only[aG,aJ,aI,true_and,and_true]at l;obtain⟨rfl,rfl,rfl,rfl,rfl⟩:=l;refine C1 (fun M=>?_) (fun H=>?_);{obtain rfl:F=0:=o;obtain⟨a,w,e,E,c0,c1,c2,c3,c4⟩:=r.rt (show 0<1 from o);have B:=fun {x:aL} {u:aU} (q:h.cell? x=some u)=>C0 L.le q;refine⟨a,e,o,o,_,_,_,_,_,_,_,_,B c0,B c1,B c2,B c3,?_⟩;refine⟨fun L G=>L=I 1::qc w.w/\G=D,fun _ _=>0,⟨rfl,rfl⟩,?_⟩;rintro k m t f p C d j g G ⟨l,rfl⟩;simp only[aG,aJ,true_and]at l;obtain⟨rfl,l⟩:=l;obtain⟨Q,_⟩:=A1z (w:=w.w) (by simpa only[aG,bH,aI,and_true]using l:(.bool m:aU) :: .slice t f p :: .bool C :: .slice d j g::[]= .bool w.w.s :: .slice w.w.A w.w.n w.w.c :: .bool w.w.s2 :: .slice w.w.A2 w.w.n2 w.w.c2::[]);obtain⟨S,O,R,N⟩:=w;dsimp only at *;subst Q;refine C1 (fun no=>o) (fun _=>?_);refine S2 (w:=⟨m,t,f,p,C,d,j,g⟩) (NQ.mono L.le E.1) ⟨_,rfl,E6 (fun _=>?_) (fun q=>absurd (Rat.num_eq_zero.1 (Int.sign_eq_zero_iff_zero.1 q)) hq)⟩;refine⟨a,e,o,o,_,_,_,B c4,?_⟩;refine L.pushG A8r C5d rfl (y:=(⟨⟨m,t,f,p,C,d,j,g⟩,O,R,N⟩:TRm)) (by rfl) E dc o fun A5 c5 V L5=>?_;exact⟨⟨1,_,_,o,rfl,L5⟩,by simp only[O8];omega⟩};·obtain rfl:F=1:=o;exact hK _ _ _ L.le (L.row A8r)
def B6j{e:List Int}(hm:1<=m)(hf:∀k,k<v->Sz m (f k))(he:∀k,(e.getD k 0).toNat<=6):∀k,k<=v->Sz (1+k*(m*6+1)) (pmv f e k):=by
 intro k
 induction k with
 |zero=>exact fun _=>Cw.mono o
 |succ k ih=>
  intro c;have a:=ih o;have b:=((hf k o).pow hm (e.getD k 0).toNat).mono (show m*(e.getD k 0).toNat+1<=m*6+1 by have:=aN m (he k);omega);exact(a.mul b).mono (by rw[bV,bU];omega)
def A8a(r:aM RTr h A 1 tt)(hq:rv (tt 0).1=1)(v1:1<=v)(v2:v<=2)(hl:(tt 0).2.length=v)(he0:∀z∈(tt 0).2,0<=z/\z<=6)(x:aM NQr h XA v f)(hm1:1<=m)(hm:m<=1000)(hf:∀k,k<v->Sz m (f k))(hK:∀w h',h.le h'->NQ h' w (mvl f (tt 0).2 0)->K w.v h'):aO prog 66 #[.agg #[I (v:Int),.slice A 1 c],.slice XA v cc] h K:=by refine(fnk func66 [(3,[6],[(5,4)],[I 0,.bool false,.slice none 0 0,.bool false,.slice none 0 0]),(7,[8],[(7,4)],[I 0,.bool false,.slice none 0 0,.bool false,.slice none 0 0])] (own:=[2,4,5,7])) ?_;have he:∀k,(((tt 0).2.getD k 0).toNat<=6):=fun k=>by{by_cases H:k<(tt 0).2.length;{have:=he0 _ (Oh H);omega};·simp[bK,H]};have V:∀k,0<=(tt 0).2.getD k 0:=fun k=>by{by_cases H:k<(tt 0).2.length;{exact(he0 _ (Oh H)).1};·simp[bK,H]};refine⟨fun L S=>∃(i:Nat) (s:QV),i<=1/\L=I (i:Int)::qc s/\h.le S/\NQ S s (if i=0 then 0 else mvl f (tt 0).2 0),fun L _=>1-(iAt L 0).toNat,⟨0,J6,o,rfl,B7 _,NQ.zero⟩,?_⟩;rintro z d0 R F Q d2 E M G S ⟨i,s,hi,B,l,is⟩;simp only[aG,aJ,true_and]at B;obtain⟨rfl,B⟩:=B;obtain⟨es,_⟩:=A1z (w:=s) (by simpa only[aG,bH,aI,and_true]using B:(.bool d0:aU) :: .slice R F Q :: .bool d2 :: .slice E M G::[]= .bool s.s :: .slice s.A s.n s.c :: .bool s.s2 :: .slice s.A2 s.n2 s.c2::[]);subst es;refine C1 (fun ag=>?_) (fun af=>?_);{obtain rfl:i=0:=o;obtain⟨a,w,e,N,c0,c1,c2,c3,c4⟩:=(r.mono A8r l).rt (show 0<1 from o);refine⟨a,e,o,o,_,_,_,_,_,_,_,_,c0,c1,c2,c3,?_⟩;refine⟨fun L hx=>∃(k:Nat) (t:QV),k<=v/\L=I (k:Int)::qc t/\S.le hx/\NQ hx t (pmv f (tt 0).2 k),fun L _=>v-(iAt L 0).toNat,⟨0,w.w,o,rfl,B7 _,by have:=N.1;rw[hq]at this;exact this⟩,?_⟩;rintro z g0 y p d X C g j hx ⟨k,t,H,B,D,it⟩;simp only[aG,aJ,true_and]at B;obtain⟨rfl,B⟩:=B;obtain⟨et,_⟩:=A1z (w:=t) (by simpa only[aG,bH,aI,and_true]using B:(.bool g0:aU) :: .slice y p d :: .bool X :: .slice C g j::[]= .bool t.s :: .slice t.A t.n t.c :: .bool t.s2 :: .slice t.A2 t.n2 t.c2::[]);subst et;have sp:=B6j (e:=(tt 0).2) hm1 hf he;have kb:∀k,k<=v->k*(m*6+1)<=2*(m*6+1):=fun k H=>aE _ o;refine C1 (fun ae=>?_) (fun ad=>?_);{have O:k<v:=o;have cl:=fun {x:aL} {u:aU} (q:S.cell? x=some u)=>C0 D q;refine⟨a,e,o,o,_,_,_,cl c4,?_⟩;refine(N.2.2.mono D).load N.2.1 o (by rw[N.2.1];omega) ?_;rw[aD];have next:C4 ((k:Int)+1)=((k+1:Nat):Int):=by{rw[C2]<;>omega};refine C1 (fun ac=>?_) (fun hz=>?_);{obtain⟨a6,w6,e6,n6,q0,q1,q2,q3⟩:=(x.mono F0 (B0 l D)).qat O;refine⟨a6,e6,o,o,_,_,_,_,_,_,_,_,q0,q1,q2,q3,a,e,o,o,_,_,_,cl c4,?_⟩;refine(N.2.2.mono D).load N.2.1 o (by rw[N.2.1];omega) ?_;rw[aD];have T:(tt 0).2.getD k 0=(((tt 0).2.getD k 0).toNat:Int):=by{have:=V k;omega};rw[T];have aa:=he k;have ah:m*((tt 0).2.getD k 0).toNat<=m*6:=aN m aa;refine A95 (w:=w6) (m:=m) n6 (hf k O) hm1 o o fun w7 h7 l7 i7=>⟨_,_,_,_,_,_,_,_,rfl,l7,?_⟩;refine K9 (a:=⟨g0,y,p,d,X,C,g,j⟩) (b:=w7) (m:=100000) (NQ.mono l7 it) i7 ((sp k o).mono (by have:=kb k o;omega)) (((hf k O).pow hm1 _).mono o) o fun w8 h8 l8 W=>⟨_,_,_,_,_,_,_,_,rfl,l8,?_⟩;rw[next];exact⟨⟨k+1,w8,o,rfl,B0 D (B0 l7 l8),W⟩,by simp only[O8];omega⟩};·rw[next];have ez:((tt 0).2.getD k 0).toNat=0:=o;refine⟨⟨k+1,⟨g0,y,p,d,X,C,g,j⟩,o,rfl,D,?_⟩,by simp only[O8];omega⟩;show NQ hx _ (pmv f (tt 0).2 k*f k^((tt 0).2.getD k 0).toNat);rw[ez,bX,aW];exact it};·obtain rfl:k=v:=o;have e9:=B13 f v1 v2 hl;rw[e9]at it;have s9:=sp k o;rw[e9]at s9;rw[iP rfl]at is;refine T6 (a:=⟨d0,R,F,Q,d2,E,M,G⟩) (b:=⟨g0,y,p,d,X,C,g,j⟩) (m:=100000) (NQ.mono D is) it (Sz.zero o) (s9.mono (by have:=kb k o;omega)) o fun w8 h8 l8 W=>⟨_,_,_,_,_,_,_,_,rfl,?_⟩;rw[cN]at W;exact⟨⟨1,w8,o,rfl,B0 l (B0 D l8),by rw[iN o];exact W⟩,by show 1-(C4 (((0:Nat):Int)+1)).toNat<1-(((0:Nat):Int)).toNat;decide⟩};·obtain rfl:i=1:=o;rw[iN o]at is;exact hK ⟨d0,R,F,Q,d2,E,M,G⟩ S l is
end
section
variable {α β α2 β2:Type} [E:Enc α] [E2:Enc α2] {R:aH->α->β->Prop} {e:bI} {h0 hp:aH} {A:Option aL} {c n:Nat} {f:Nat->β} {R2:aH->α2->β2->Prop}
def Lst.litR(m:Mon R)(m2:Mon R2){P:cD}{t e2:bI}{z:aU}{bytes:Nat}(st:SliceT P t e2 z E2.default.size bytes)(l:Lst R e h0 hp A c n f){v:aU}{y:α2}(hv:v.cells=(enc y).toArray)(hsz:E2.default.size<=1000){q:β2}(hR:R2 h0 y q){K:VP}
 (x:∀b h' g,h0.le g->hp.le h'->Lst R e g h' A c n f->aM R2 g (some ⟨b,0,none⟩) 1 (fun _=>q)->K (.slice (some ⟨b,0,none⟩) 1 1) h'):wpH P (cF t 1 #[(0,v)]) K hp:=by
 obtain⟨g,o,D,p,s,w,F,r⟩:=l;have B:(enc y).length=E2.default.size:=E2.default.len y;have C:v.cells.size=E2.default.size:=by rw[hv,List.size_toArray,B]
 refine T7 st (vs:=[v]) (fun u k=>by rw[List.mem_singleton.1 k];exact C) rfl (by simp;omega) rfl fun b d=>?_
 have E:g b=none:=by
  cases q:g b with
  |none=>rfl
  |some u=>rw[s.le _ _ q]at d;cases d
 have j:=Heap.le_put (.cells ([v].flatMap fun v=>v.cells.toList).toArray e2) E;refine x b _ _ (B0 p j) (Heap.le_put _ d) ⟨_,o,D,B7 _,s.vis d _,w,F,r.mono m j⟩ ⟨[y],SlV.new _ _ _ _ _ _ (fun i u k=>by simpa[hv]using k),rfl,fun i G=>⟨y,?_,m2 _ _ _ _ (B0 p j) hR⟩⟩;obtain rfl:i=0:=oo;rfl
end
def ofS(w:Nat->Rat)(X:Nat->Nat->Rat)(e:List Int)(k:Nat):Rat:=sm k fun l=>w l*mvl (X l) e 0
def B57:∀v:Fin 3,∀D:Fin 7,1<=v.val->∀i:Fin 28,i.val<(mo v D).length->(mon v D i).all (fun z=>decide (0<=z/\z<=6))=true:=by decide +kernel
section
variable {h:aH} {K:VP} {A B XA WA:Option aL} {c cc n m v D:Nat} {w f:Nat->Rat} {X:Nat->Nat->Rat}
def C62(h1:1<=v)(h2:v<=2)(hD:D<=6){i:Nat}(hi:i<(mo v D).length):∀z∈mon v D i,0<=z/\z<=6:=by have c:=(O9 h1 h2 hD).len;have:=B57 ⟨v,o⟩ ⟨D,o⟩ h1 ⟨i,o⟩ hi;simpa only[bW,decide_eq_true_eq]using this
def C25{e:List Int}(hl:e.length=v)(h1:1<=v)(h2:v<=2)(he:∀z∈e,0<=z/\z<=6)(hX:∀l j,l<n->j<v->Sz 2 (X l j))(hw:∀l,l<n->Sz 30 (w l)):(∀l,l<n->Sz 30 (mvl (X l) e 0))/\∀k,k<=n->Sz (1+k*(2*30+1)) (ofS w X e k):=by have f:∀l,l<n->Sz 30 (mvl (X l) e 0):=fun l d=>by{rw[<- B13 (X l) h1 h2 hl];refine(B6j (m:=2) (v:=v) o (fun k c=>hX l k d c) (fun k=>?_) v (aC _)).mono ?_;{by_cases c:k<e.length;{have:=he _ (Oh c);omega};·simp[bK,c]};·have:v*(2*6+1)<=2*13:=aE _ h2;omega};exact⟨f,fun k c=>Gk (w:=n) hw f k c⟩
def Xj(xs:cK h XA n v X)(ws:aM NQr h WA n w)(n1:1<=n)(n3:n<=3)(v1:1<=v)(v2:v<=2)(hD:D<=6)(hX:∀l j,l<n->j<v->Sz 2 (X l j))(hw:∀l,l<n->Sz 30 (w l)) (hK:∀A' c' h',Lst NQr 37 h h' A' c' (mo v D).length (fun i=>ofS w X (mon v D i) n)->K (.agg #[I (v:Int),I (D:Int),.slice A' (mo v D).length c']) h'):aO prog 15 #[.slice XA n c,.slice WA n cc,I (D:Int)] h K:=by refine(fnk func15 [(3,[24],[(7,3)],[I 0,I 0,I 0,.slice none 0 0]),(8,[37],[(10,4)],[I 0,.bool false,.slice none 0 0,.bool false,.slice none 0 0])] (os:=[(6,[0,1,3,7,2,4,5,6,8])]) (own:=[6,7,10,11])) ?_;obtain⟨a0,s0,e0,q1,_,q3,_⟩:=xs.at (i:=0) o;rw[q1]at q3;refine⟨a0,e0,o,o,_,_,_,q3,?_⟩;have ay:=(O9 v1 v2 hD).len;refine Pr (n:=v) (d:=D) o o fun A1 c1 h1 l1 s1=>⟨_,_,_,rfl,?_⟩;change MoSl h1 A1 (mo v D)at s1;change ∃Inv mu,_;refine⟨fun L hp=>∃(i:Nat) (A':Option aL) (c':Nat),i<=(mo v D).length/\L=[I (i:Int),I (v:Int),I (D:Int),.slice A' i c']/\Lst NQr 37 h1 hp A' c' i (fun i=>ofS w X (mon v D i) n),fun L _=>(mo v D).length-(iAt L 0).toNat,⟨0,_,_,o,rfl,Lst.nil⟩,?_⟩;rintro z p0 p1 pA i pc hp ⟨i0,A',c',hi,N,L⟩;simp only[aG,aJ,aI,true_and,and_true]at N;obtain⟨rfl,rfl,rfl,rfl,rfl,rfl⟩:=N;refine C1 (fun au=>?_) (fun az=>?_);{have O:i<(mo v D).length:=by{have:((mo v D).length:Int)=((Wd v (D+1)).length:Int):=rfl;omega};obtain⟨a,B1,bc,e,c0,s2⟩:=s1.mon O;refine⟨a,e,o,by show(i:Int)<((mo v D).length:Int);omega,_,_,_,by rw[aD];exact C0 L.le c0,?_⟩;have hl:(mon v D i).length=v:=(Lj v1 v2 hD O).1;have he:=C62 v1 v2 hD O;obtain⟨W,am⟩:=C25 (w:=w) hl v1 v2 he hX hw;have aw:=B0 l1 L.le;refine L.call F0 fun g lg=>Ao o fun w0 h3 l3 i3=>⟨l3,fun h4 l4 L4=>⟨_,_,_,_,_,_,_,_,rfl,l4,?_⟩⟩;have b3:=B0 lg l3;refine L4.litR F0 (R2:=RTr) A8r C5d (y:=(⟨w0,B1,(mon v D i).length,bc⟩:TRm)) (q:=(F3 1,mon v D i)) (by rfl) dc ⟨by show NQ h3 w0 (rv (F3 1));rw[H2];exact i3,rfl,s2.mono b3⟩ fun b h5 g5 ae l5 L5 T=>⟨_,_,_,rfl,l5,?_⟩;refine L5.call F0 fun g6 S=>A4k (T.mono A8r S) (by show rv (F3 1)≠0;rw[H2];decide) (aC _) fun A7 c7 h7 l7 V=>⟨l7,fun h8 l8 L8=>⟨_,_,_,_,rfl,l8,?_⟩⟩;have b7:=B0 b3 (B0 ae (B0 S l7));refine⟨fun L hx=>∃(l:Nat) (s:QV) (g:aH),l<=n/\L=I (l:Int)::qc s/\h7.le g/\Lst NQr 37 g hx pA pc i (fun i=>ofS w X (mon v D i) n)/\NQ g s (ofS w X (mon v D i) l),fun L _=>n-(iAt L 0).toNat,⟨0,J6,h7,o,rfl,B7 _,L8,NQ.zero⟩,?_⟩;rintro z d0 H E B d2 C M F hx ⟨l,s,gx,ag,N,t,Lx,is⟩;simp only[aG,aJ,true_and]at N;obtain⟨rfl,N⟩:=N;obtain⟨es,_⟩:=A1z (w:=s) (by simpa only[aG,bH,aI,and_true]using N:(.bool d0:aU) :: .slice H E B :: .bool d2 :: .slice C M F::[]= .bool s.s :: .slice s.A s.n s.c :: .bool s.s2 :: .slice s.A2 s.n2 s.c2::[]);subst es;have bx:=B0 l1 (B0 b7 t);refine C1 (fun ao=>?_) (fun an=>?_);{have f:l<n:=o;have p:=fun {x:aL} {u:aU} (q:h.cell? x=some u)=>C0 (B0 bx Lx.le) q;obtain⟨a5,w5,e5,n5,c0,c1,c2,c3⟩:=ws.qat f;obtain⟨a6,s6,e6,t1,t2,t3,t4⟩:=xs.at f;rw[t1]at t3;refine⟨a5,e5,o,o,_,_,_,_,_,_,_,_,p c0,p c1,p c2,p c3,a6,e6,o,o,_,_,_,p t3,?_⟩;refine Lx.call F0 fun g9 G=>A8a (m:=2) (V.mono A8r (B0 t G)) (H2 1) v1 v2 hl he (t4.mono F0 (B0 bx G)) o o (fun j hj=>hX l j f hj) fun w9 h9 l9 i9=>⟨l9,fun av ad L10=>⟨_,_,_,_,_,_,_,_,rfl,ad,?_⟩⟩;have b9:=B0 G l9;refine L10.call F0 fun aq k=>K9 (a:=w5) (b:=w9) (m:=30) (NQ.mono (B0 bx (B0 b9 k)) n5) (NQ.mono k i9) (hw l f) (W l f) o fun ai a1 aa ah=>⟨aa,fun ax al L12=>⟨_,_,_,_,_,_,_,_,rfl,al,?_⟩⟩;have Q:=B0 b9 (B0 k aa);have kb:l*(2*30+1)<=3*61:=aE _ o;refine L12.call F0 fun a3 r=>T6 (a:=⟨d0,H,E,B,d2,C,M,F⟩) (b:=ai) (m:=1000) (NQ.mono (B0 Q r) is) (NQ.mono r ah) ((am l ag).mono o) (((hw l f).mul (W l f)).mono o) o fun ak ac R aj=>⟨R,fun ap af L14=>⟨_,_,_,_,_,_,_,_,rfl,af,?_⟩⟩;rw[wiS l o];exact⟨⟨l+1,ak,ac,o,rfl,B0 t (B0 Q (B0 r R)),L14,aj⟩,by simp only[O8];omega⟩};·obtain rfl:l=n:=o;refine Lx.push F0 V4 rfl (y:=(⟨d0,H,E,B,d2,C,M,F⟩:QV)) (by rfl) is dc o fun A15 a2 ar L15=>?_;rw[wiS i o];exact⟨⟨i+1,_,_,o,rfl,L15.weak (B0 b7 t)⟩,by simp only[O8];omega⟩};·obtain rfl:i=(mo v D).length:=by{have:((mo v D).length:Int)=((Wd v (D+1)).length:Int):=rfl;omega};exact hK _ _ _ (L.weak l1)
def A1s(xs:cK h XA n v X)(ws:aM NQr h WA n w)(n1:1<=n)(n3:n<=3)(v1:1<=v)(v2:v<=2)(hD:D<=6)(hX:∀l j,l<n->j<v->Sz 2 (X l j))(hw:∀l,l<n->Sz 30 (w l)) (hK:∀A' c' h',h.le h'->aM NQr h' A' (mo v D).length (fun i=>ofS w X (mon v D i) n)->K (.agg #[I (v:Int),I (D:Int),.slice A' (mo v D).length c']) h'):aO prog 15 #[.slice XA n c,.slice WA n cc,I (D:Int)] h K:=Xj xs ws n1 n3 v1 v2 hD hX hw fun _ _ _ L=>hK _ _ _ L.le (L.row F0)
end
section
variable {h:aH} {K:VP} {A:Option aL} {c n m:Nat} {f:Nat->Rat}
def Rc{v D:Int}(r:aM NQr h A n f)(hn:n<=1000000)(hs:∀i,i<n->Sz m (f i))(hm:m<=1000000)(hK:∀A' c' h',h.le h'->aM SSr h' A' n (fun i=>F3 (f i))->K (.agg #[I v,I D,.slice A' n c']) h'):aO prog 14 #[.agg #[I v,I D,.slice A n c]] h K:=by refine(fnk func14 (own:=[1,2])) ?_;exact Y5 r hn hs oo fun b d o=>⟨_,_,_,rfl,o.le,hK _ _ _ o.le (o.vis E9)⟩
end
structure CS where
 p':Int
 r':Int
 p:Int
 r:Int
def CS.next(s:CS)(a:Int):CS:=⟨s.p,s.r,s.p'+a*s.p,s.r'+a*s.r⟩
structure CSI (s:CS) (q x:Rat):Prop where
 det:s.p*s.r'-s.p'*s.r=1\/s.p*s.r'-s.p'*s.r= -1
 eq:q*(s.r*x+s.r')=s.p*x+s.p'
 r0:0<=s.r/\0<=s.r'/\0<s.r+s.r'
def ab(x:Rat):Rat:=if x<0 then -x else x
section
variable {h:aH} {K:VP} {m:Nat} {a b w:QV} {p q:Rat}
end
section
variable {h:aH} {K:VP} {x y:List UInt8}
end
section
variable {h:aH} {K:VP} {A B:Option aL} {n m a b:Nat} {ls ls2:Nat->List UInt8}
def R6(x:aM SSr h A n ls)(y:aM SSr h B m ls2)(hn:n<=1000000000)(hK1:n=m->(∀i,i<n->ls i=ls2 i)->K (.bool true) h)(hK0:¬(n=m/\∀i,i<n->ls i=ls2 i)->K (.bool false) h):aO prog 10 #[.slice A n a,.slice B m b] h K:=by refine(fnk func10 [(4,[13],[],[I 0])]) ?_;refine E6 (fun e=>hK0 fun g=>e o) (fun e=>?_);have e:n=m:=o;subst e;refine⟨fun L d=>∃i:Nat,i<=n/\L=[I (i:Int)]/\d=h/\∀j,j<i->ls j=ls2 j,fun L _=>n-(iAt L 0).toNat,⟨0,o,rfl,rfl,fun j q=>o⟩,?_⟩;rintro z d ⟨i,w,t,rfl,f⟩;obtain rfl:=sI1 t;refine C1 (fun p=>?_) (fun l=>?_);{have c:i<n:=o;obtain⟨u,rfl,r⟩:=x.sat c;obtain⟨v,rfl,k⟩:=y.sat c;refine⟨u,rfl,o,o,_,r,v,rfl,o,o,_,k,?_⟩;dsimp only;rw[Rl];refine Br.not (C1 (fun e=>?_) (fun e=>hK0 fun g=>e (g.2 i c)));rw[wiS i o];refine⟨⟨i+1,o,rfl,rfl,fun j q=>?_⟩,by simp only[O8];omega⟩;by_cases s:j=i;{subst s;exact e};·exact f j o};·have:i=n:=o;subst this;exact hK1 rfl f
end
