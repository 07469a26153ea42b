/- A part. -/
import Derived.Test.YtmbfcbbkbefgfaaGreatDoorG27
import Derived.Test.YtmbfcbbkbefgfaaGreatDoorG28
open Go.Proofs.Tryz
set_option linter.all false
open _root_.Go.Addr renaming add->aE
open _root_.Go.Addr.mk renaming injEq->aY
open _root_.Go.Builtin renaming append_->bI
open Classical renaming byContradiction->bG
open _root_.Go.Instr renaming storeAt->aU,buildSlice->cH
open Int renaming toNat_natCast->aH,natCast_mul->aT,natAbs_natCast->dB,gcd->dJ,sign_eq_zero_iff_zero->dL,mul_tdiv_cancel_left->dO,tdiv_eq_ediv_of_dvd->dP
open List renaming length_append->aC,getElem?_eq_getElem->aI,replicate->aO,length_replicate->aP,getD_eq_getElem?_getD->aR,getElem?_append_left->bF,getElem?_set_ne->bK,getElem?_set_self->bV,getElem?_append_right->cD,length_set->cI,toArray->cM,eq_nil_of_length_eq_zero->cP,getElem?_replicate->cX,append_assoc->dF,take_append_of_le_length->dG,length_map->dI
open List.cons renaming injEq->bH
open Nat renaming mul_le_mul_right->aD,le_refl->aF,add_mul->aK,one_mul->aL,zero_add->aM,mul_comm->aN,lt_irrefl->aS,mul_le_mul->aZ,add_mul_mod_self_right->bD,div_eq_of_lt->bL,zero_le->bN,add_mul_div_right->bX,div_lt_of_lt_mul->cC,zero_mul->cG,add_comm->cL,mod_eq_of_lt->cN,pow_le_pow_right->cO,le_succ_of_le->cU,add_sub_cancel_left->cW,pow_pos->cY,mul_assoc->cZ,le_trans->dD,add_zero->dE,mod_lt->dK,add_assoc->dN,pow_zero->dR,pow_succ->dS,le_mul_of_pos_left->dT,lcm->dU
open Option.some renaming injEq->aQ,inj->dH
open Rat renaming mul_comm->aV,mul_zero->aX,intCast_mul->bC,div_def->bM,zero_mul->bO,add_zero->bU,divInt->bZ,divInt_eq_div->cK,one_mul->cT,sub_eq_add_neg->dA,mul_assoc->dM,zero_add->dQ
open _root_.Go.Value renaming cells->cJ,string->dC
open _root_.Go.Value.bool renaming injEq->cF
open _root_.Go.Value.int renaming injEq->cQ
open _root_.Go.Value.slice renaming injEq->bJ
open _root_.Go renaming Addr->aJ,TypeId->bW,Value->bY,Program->cV
open _root_.Go.Proofs.YtmbfcbbkbefgfaaGreatDoor renaming Heap->aG,FCall->aW,RowV->bB,IsNum->cR
namespace Go.Proofs.YtmbfcbbkbefgfaaGreatDoor
set_option maxRecDepth 20000
def sm:Nat->(Nat->Rat)->Rat
 | 0,_=>0
 | n+1,f=>sm n f+f n
def D7{n:Nat}{f g:Nat->Rat}(h:∀ i,i<n->f i=g i):sm n f=sm n g:=by
 induction n with
 | zero=>rfl
 | succ n ih=>rw [sm,sm,ih (fun i a=>h i (by omega)),h n (by omega)]
def Fs{n:Nat}{f:Nat->Rat}(h:∀ i,i<n->f i=0):sm n f=0:=by
 induction n with
 | zero=>rfl
 | succ n ih=>rw [sm,ih (fun i a=>h i (by omega)),h n (by omega)];exact bU 0
def Uk(n:Nat)(f g:Nat->Rat):sm n (fun i=>f i+g i)=sm n f+sm n g:=by
 induction n with
 | zero=>simp only [sm];exact (bU 0).symm
 | succ n ih=>simp only [sm];rw [ih];grind
def Gz(n:Nat)(a:Rat)(f:Nat->Rat):sm n (fun i=>a*f i)=a*sm n f:=by
 induction n with
 | zero=>simp only [sm];grind
 | succ n ih=>simp only [sm];rw [ih];grind
def A32(n:Nat)(f:Nat->Rat):sm n (fun i=> - f i)= - sm n f:=by
 induction n with
 | zero=>simp only [sm];grind
 | succ n ih=>simp only [sm];rw [ih];grind
def A5z(n m:Nat)(f:Nat->Nat->Rat):sm n (fun i=>sm m (f i))=sm m (fun j=>sm n (fun i=>f i j)):=by
 induction n with
 | zero=>rw [sm];exact (Fs fun _ _=>rfl).symm
 | succ n ih=>simp only [sm];rw [ih,<- Uk]
def A31{n k:Nat}(hk:k<n){f:Nat->Rat}(h:∀ i,i<n->i≠k->f i=0):sm n f=f k:=by
 induction n with
 | zero=>omega
 | succ n ih=>
  rw [sm]
  by_cases e:k=n
  ·subst e;rw [Fs fun i b=>h i (by omega) (by omega)];exact dQ _
  ·rw [ih (by omega) fun i b a=>h i (by omega) a,h n (by omega) (by omega)];exact bU _
def rhx(l i:Nat):Nat:=if i<l then i else i+1
def B2i(l i:Nat):rhx l i≠l:=by unfold rhx;split<;>omega
def A3d{l i k:Nat}(hi:i<k):rhx l i<k+1:=by unfold rhx;split<;>omega
def B8z{k a:Nat}(ha:a<=k)(t:Nat->Rat):sm k (fun i=>t (rhx a i))=sm (k+1) (fun b=>if b=a then 0 else t b):=by
 induction k generalizing a with
 | zero=>
  show (0:Rat)=0+(if 0=a then 0 else t 0)
  rw [iP (by omega)];exact (bU 0).symm
 | succ k ih=>
  show sm k (fun i=>t (rhx a i))+t (rhx a k)=sm (k+1) (fun b=>if b=a then 0 else t b)+(if k+1=a then 0 else t (k+1))
  by_cases e:a=k+1
  ·rw [iP e.symm,bU]
   show sm k (fun i=>t (rhx a i))+t (rhx a k)=sm k (fun b=>if b=a then 0 else t b)+(if k=a then 0 else t k)
   rw [iN (by omega)]
   congr 1
   ·exact D7 fun i c=>by rw [rhx,iP (by omega),iN (by omega)]
   ·rw [rhx,iP (by omega)]
  ·rw [ih (by omega),iN (fun x=>e x.symm)]
   congr 1
   rw [rhx,iN (by omega)]
def sg(n:Nat):Rat:=if n%2=0 then 1 else -1
def dt:Nat->(Nat->Nat->Rat)->Rat
 | 0,_=>1
 | k+1,X=>sm (k+1) fun l=>sg (k+l)*X k l*dt k (fun c r=>X c (rhx l r))
def V6{k:Nat}: ∀ {X Y:Nat->Nat->Rat},(∀ c r,c<k->r<k->X c r=Y c r)->dt k X=dt k Y:=by
 induction k with
 | zero=>intros;rfl
 | succ k ih=>
  intro X Y h
  rw [dt,dt]
  refine D7 fun l b=>?_
  rw [h k l (by omega) b,ih fun c r d a=>h c (rhx l r) (by omega) (A3d a)]
def rc(X:Nat->Nat->Rat)(m:Nat)(y:Nat->Rat):Nat->Nat->Rat:=fun c r=>if c=m then y r else X c r
def Fw(X:Nat->Nat->Rat)(m:Nat)(y:Nat->Rat)(l:Nat):(fun c r=>rc X m y c (rhx l r))=rc (fun c r=>X c (rhx l r)) m (fun r=>y (rhx l r)):=by
 funext c r;unfold rc;split<;>rfl
def A4c{k:Nat}: ∀ (X:Nat->Nat->Rat) {m:Nat} (_:m<k) (y z:Nat->Rat),dt k (rc X m fun r=>y r+z r)=dt k (rc X m y)+dt k (rc X m z):=by
 induction k with
 | zero=>intros;omega
 | succ k ih=>
  intro X m b y z
  rw [dt,dt,dt,<- Uk]
  refine D7 fun l a=>?_
  by_cases e:m=k
  ·subst e
   have:∀ u:Nat->Rat,dt m (fun c r=>rc X m u c (rhx l r))=dt m (fun c r=>X c (rhx l r)):=fun u=>V6 fun c r d _=>by rw [rc,iN (by omega)]
   rw [this,this,this]
   simp only [rc,if_true]
   grind
  ·rw [Fw,Fw,Fw,ih _ (by omega)]
   simp only [rc,iN (fun x:k=m=>e x.symm)]
   grind
def B43{k:Nat}: ∀ (X:Nat->Nat->Rat) {m:Nat} (_:m<k) (a:Rat) (y:Nat->Rat),dt k (rc X m fun r=>a*y r)=a*dt k (rc X m y):=by
 induction k with
 | zero=>intros;omega
 | succ k ih=>
  intro X m d a y
  rw [dt,dt,<- Gz]
  refine D7 fun l b=>?_
  by_cases e:m=k
  ·subst e
   have:∀ u:Nat->Rat,dt m (fun c r=>rc X m u c (rhx l r))=dt m (fun c r=>X c (rhx l r)):=fun u=>V6 fun c r f _=>by rw [rc,iN (by omega)]
   rw [this,this]
   simp only [rc,if_true]
   grind
  ·rw [Fw,Fw,ih _ (by omega)]
   simp only [rc,iN (fun x:k=m=>e x.symm)]
   grind
def C1l{k:Nat}(X:Nat->Nat->Rat){m:Nat}(hm:m<k):dt k (rc X m fun _=>0)=0:=by
 have:=B43 X hm 0 (fun _=>0)
 rw [bO] at this
 simpa only [bO] using this
def B9f{k:Nat}(X:Nat->Nat->Rat){m:Nat}(hm:m<k)(a:Nat->Rat)(Y:Nat->Nat->Rat):∀ n,dt k (rc X m fun r=>sm n fun t=>a t*Y t r)=sm n fun t=>a t*dt k (rc X m (Y t)):=by
 intro n
 induction n with
 | zero=>exact C1l X hm
 | succ n ih=>
  simp only [sm]
  rw [A4c X hm,ih,B43 X hm]
def A69(X:Nat->Nat->Rat)(m:Nat):rc X m (X m)=X:=by
 funext c r;unfold rc;split
 ·rename_i e;rw [e]
 ·rfl
def A8x{k:Nat}(X:Nat->Nat->Rat)(h:∀ r,r<k+2->X k r=X (k+1) r):dt (k+2) X=0:=by
 let mn:Nat->Nat->Rat:=fun a b=>dt k (fun c r=>X c (if a<b then rhx a (rhx (b-1) r) else rhx b (rhx (a-1) r)))
 let G:Nat->Nat->Rat:=fun a b=>if a=b then 0 else if b<a then sg (a+b)*X (k+1) a*X (k+1) b*mn a b else-(sg (a+b)*X (k+1) a*X (k+1) b*mn a b)
 have m:∀ a b,mn a b=mn b a:=by
  intro a b
  show dt k _=dt k _
  refine V6 fun c r _ _=>?_
  by_cases d:a<b
  ·rw [iP d,iN (by omega)]
  ·by_cases n:b<a
   ·rw [iN d,iP n]
   ·have:a=b:=by omega
    subst this;rfl
 have s:∀ a b,G b a= - G a b:=by
  intro a b
  show (if b=a then 0 else if a<b then _ else _)= - (if a=b then 0 else if b<a then _ else _)
  by_cases e:a=b
  ·rw [iP e,iP e.symm];grind
  ·rw [iN e,iN (fun x=>e x.symm)]
   have t:=m a b
   by_cases d:a<b
   ·rw [iP d,iN (by omega),cL b a];grind
   ·rw [iN d,iP (by omega),cL b a];grind
 have f:dt (k+2) X=sm (k+2) fun a=>sm (k+2) fun b=>G a b*sg (k+1+k):=by
  rw [dt]
  refine D7 fun a w=>?_
  have p:(fun b=>G a b*sg (k+1+k))=(fun b=>if b=a then 0 else (fun b=>G a b*sg (k+1+k)) b):=by
   funext b
   by_cases e:b=a
   ·subst e;rw [iP rfl];show (if b=b then 0 else _)*_=_;rw [iP rfl];grind
   ·rw [iN e]
  rw [p,<- B8z (by omega) (fun b=>G a b*sg (k+1+k)),dt,<- Gz]
  refine D7 fun i o=>?_
  have l:X k (rhx a i)=X (k+1) (rhx a i):=h _ (A3d o)
  have j:dt k (fun c r=>X c (rhx a (rhx i r)))=mn a (rhx a i):=by
   show _=dt k _
   refine V6 fun c r _ _=>?_
   by_cases d:i<a
   ·have g:rhx a i=i:=by rw [rhx,iP d]
    rw [g,iN (by omega)]
    congr 1
    simp only [rhx]
    repeat' split
    all_goals omega
   ·have g:rhx a i=i+1:=by rw [rhx,iN d]
    rw [g,iP (by omega),Nat.add_sub_cancel]
  rw [l,j]
  show _=(if a=rhx a i then 0 else if rhx a i<a then _ else _)*_
  rw [iN (fun e=>B2i a i e.symm)]
  have u:∀ x y:Nat,x%2=y%2->sg x=sg y:=fun x y e=>by unfold sg;rw [e]
  by_cases d:i<a
  ·have g:rhx a i=i:=by rw [rhx,iP d]
   rw [g,iP d]
   have q:sg (k+1+a)*sg (k+i)=sg (a+i)*sg (k+1+k):=by
    unfold sg
    repeat' split
    all_goals first|omega|grind
   grind
  ·have g:rhx a i=i+1:=by rw [rhx,iN d]
   rw [g,iN (by omega)]
   have q:sg (k+1+a)*sg (k+i)= - sg (a+(i+1))*sg (k+1+k):=by
    unfold sg
    repeat' split
    all_goals first|omega|grind
   grind
 have n:dt (k+2) X= - dt (k+2) X:=by
  have:dt (k+2) X=sm (k+2) fun a=>sm (k+2) fun b=>G b a*sg (k+1+k):=by
   rw [f];exact A5z _ _ _
  refine this.trans ?_
  rw [f,<- A32]
  refine D7 fun a _=>?_
  rw [<- A32]
  exact D7 fun b _=>by rw [s];grind
 grind
def C1n:∀ {k:Nat} (X:Nat->Nat->Rat) {p q:Nat} (_:p<q) (_:q<k) (_:∀ r,r<k->X p r=X q r),dt k X=0:=by
 intro k
 induction k with
 | zero=>intros;omega
 | succ k ih=>
  intro X p q f x h
  by_cases e:q=k
  ·subst e
   by_cases w:p+1=q
   ·subst w
    exact A8x X h
   ·
    obtain ⟨k',rfl⟩:∃ k',q=k'+1:=⟨q-1,by omega⟩
    have t:p<k':=by omega
    have swap:∀ (Z:Nat->Nat->Rat),dt (k'+1) (rc (rc Z p (Z k')) k' (Z p))= - dt (k'+1) Z:=by
     intro Z
     have i:∀ y:Nat->Rat,dt (k'+1) (rc (rc Z p y) k' y)=0:=fun y=>ih _ t (by omega) fun r _=>by
      unfold rc;rw [iN (by omega),iP rfl,iP rfl]
     have comm:∀ y z:Nat->Rat,rc (rc Z p y) k' z=rc (rc Z k' z) p y:=by
      intro y z;funext c r;unfold rc
      by_cases d:c=k'
      ·by_cases a:c=p
       ·omega
       ·rw [iP d,iN a,iP d]
      ·by_cases a:c=p
       ·rw [iN d,iP a,iP a]
       ·rw [iN d,iN a,iN a,iN d]
     have b:=i (fun r=>Z p r+Z k' r)
     rw [A4c _ (by omega)] at b
     rw [comm _ (Z p),comm _ (Z k'),A4c _ (by omega),A4c _ (by omega)] at b
     rw [<- comm,<- comm,<- comm,<- comm] at b
     rw [i (Z p),i (Z k')] at b
     have n:rc (rc Z p (Z p)) k' (Z k')=Z:=by rw [A69,A69]
     rw [n] at b
     grind
    have m:dt (k'+1+1) X= - dt (k'+1+1) (rc (rc X p (X k')) k' (X p)):=by
     rw [dt,dt,<- A32]
     refine D7 fun l _=>?_
     have j:rc (rc X p (X k')) k' (X p) (k'+1) l=X (k'+1) l:=by unfold rc;rw [iN (by omega),iN (by omega)]
     have u:(fun c r=>rc (rc X p (X k')) k' (X p) c (rhx l r))=rc (rc (fun c r=>X c (rhx l r)) p (fun r=>X k' (rhx l r))) k' (fun r=>X p (rhx l r)):=by
      rw [Fw,Fw]
     have:=swap (fun c r=>X c (rhx l r))
     rw [j,u,this]
     grind
    rw [m,A8x _ fun r g=>?_]
    ·grind
    ·have s:rc (rc X p (X k')) k' (X p) k' r=X p r:=by unfold rc;rw [iP rfl]
     have o:rc (rc X p (X k')) k' (X p) (k'+1) r=X (k'+1) r:=by unfold rc;rw [iN (by omega),iN (by omega)]
     rw [s,o];exact h r g
  ·rw [dt]
   refine Fs fun l _=>?_
   rw [ih _ f (by omega) fun r g=>h (rhx l r) (A3d g)]
   grind
def C1m{k:Nat}(X:Nat->Nat->Rat)(h:∀ r,r<k->X k r=0):dt (k+1) X=X k k*dt k X:=by
 rw [dt,A31 (k:=k) (by omega) fun i e a=>by rw [h i (by omega)];grind]
 have:dt k (fun c r=>X c (rhx k r))=dt k X:=V6 fun c r _ d=>by rw [rhx,iP d]
 have b:sg (k+k)=1:=by unfold sg;rw [iP (by omega)]
 rw [this,b,cT]
def Wh(q:Rat):Prop:=∃ z:Int,q=(z:Rat)
def Wh.add{p q:Rat}(hp:Wh p)(hq:Wh q):Wh (p+q):=by
 obtain ⟨a,rfl⟩:=hp;obtain ⟨b,rfl⟩:=hq
 exact ⟨a+b,by rw [Rat.intCast_add]⟩
def Wh.mul{p q:Rat}(hp:Wh p)(hq:Wh q):Wh (p*q):=by
 obtain ⟨a,rfl⟩:=hp;obtain ⟨b,rfl⟩:=hq
 exact ⟨a*b,by rw [bC]⟩
def Wh.sg(n:Nat):Wh (sg n):=by
 unfold Go.Proofs.YtmbfcbbkbefgfaaGreatDoor.sg
 split
 ·exact ⟨1,rfl⟩
 ·exact ⟨-1,by decide +kernel⟩
def Wh.sm{n:Nat}{f:Nat->Rat}(h:∀ i,i<n->Wh (f i)):Wh (sm n f):=by
 induction n with
 | zero=>exact ⟨0,rfl⟩
 | succ n ih=>exact (ih fun i a=>h i (by omega)).add (h n (by omega))
def C3q{k:Nat}: ∀ {X:Nat->Nat->Rat},(∀ c r,c<k->r<k->Wh (X c r))->Wh (dt k X):=by
 induction k with
 | zero=>intro X _;exact ⟨1,rfl⟩
 | succ k ih=>
  intro X h
  rw [dt]
  refine Wh.sm fun l b=>?_
  exact ((Wh.sg _).mul (h k l (by omega) b)).mul (ih fun c r d a=>h c _ (by omega) (A3d a))
structure Elim (n w:Nat) (B R:Nat->Nat->Rat) (cs:Nat->Nat) (k:Nat):Prop where
 kn:k<=n
 cw:∀ m,m<k->cs m<w
 piv:∀ l m,l<k->m<k->R l (cs m)=if l=m then 1 else 0
 low:∀ i m,i<n->k<=i->m<k->R i (cs m)=0
 top:∀ l j,l<k->j<w->B l j=sm k fun m=>B l (cs m)*R m j
 bot:∀ i j,i<n->k<=i->j<w->B i j=R i j+sm k fun m=>B i (cs m)*R m j
def dp(B:Nat->Nat->Rat)(cs:Nat->Nat)(k:Nat):Rat:=dt k fun c r=>B r (cs c)
section
variable {n w:Nat} {B R:Nat->Nat->Rat} {cs:Nat->Nat} {k:Nat}
def Elim.below(E:Elim n w B R cs k){i j:Nat}(hi:i<n)(hk:k<=i)(hj:j<w):dp B cs k*R i j=dt (k+1) fun c r=>B (if r<k then r else i) (if c<k then cs c else j):=by
 have l:(fun c r=>B (if r<k then r else i) (if c<k then cs c else j))=rc (fun c r=>B (if r<k then r else i) (cs c)) k (fun r=>B (if r<k then r else i) j)\/True:=.inr trivial
 clear l
 let X:Nat->Nat->Rat:=fun c r=>B (if r<k then r else i) (cs c)
 have f:dt (k+1) (fun c r=>B (if r<k then r else i) (if c<k then cs c else j))=dt (k+1) (rc X k fun r=>(sm k fun t=>R t j*X t r)+(if r<k then 0 else R i j)):=by
  refine V6 fun c r e b=>?_
  unfold rc
  by_cases h:c=k
  ·subst h
   rw [iN (aS c),iP rfl]
   show _=(sm c fun t=>R t j*X t r)+(if r<c then 0 else R i j)
   by_cases a:r<c
   ·rw [iP a,iP a,bU,E.top r j a hj]
    refine D7 fun m _=>?_
    show _=_*B (if r<c then r else i) (cs m)
    rw [iP a,aV]
   ·rw [iN a,iN a,E.bot i j hi hk hj,Rat.add_comm]
    congr 1
    refine D7 fun m _=>?_
    show _=_*B (if r<c then r else i) (cs m)
    rw [iN a,aV]
  ·rw [iN h,iP (show c<k by omega)]
 rw [f,A4c _ (by omega),B9f X (by omega) (fun t=>R t j) X]
 rw [Fs fun t d=>by
  rw [C1n (rc X k (X t)) (p:=t) (q:=k) d (by omega) fun r _=>by unfold rc;rw [iN (by omega),iP rfl]]
  exact aX _]
 rw [C1m _ fun r b=>by unfold rc;rw [iP rfl];show (if r<k then 0 else R i j)=0;rw [iP b]]
 have g:dt k (rc X k fun r=>if r<k then 0 else R i j)=dp B cs k:=by
  refine V6 fun c r e b=>?_
  unfold rc
  rw [iN (by omega)]
  show B (if r<k then r else i) (cs c)=_
  rw [iP b]
 rw [g]
 unfold rc
 rw [iP rfl]
 show _=0+(if k<k then 0 else R i j)*_
 rw [iN (aS k)]
 grind
def Elim.above(E:Elim n w B R cs k){i j:Nat}(hi:i<k)(hj:j<w):dp B cs k*R i j=dt k (rc (fun c r=>B r (cs c)) i fun r=>B r j):=by
 let X:Nat->Nat->Rat:=fun c r=>B r (cs c)
 have d:dt k (rc X i fun r=>B r j)=dt k (rc X i fun r=>sm k fun t=>R t j*X t r):=by
  refine V6 fun c r f b=>?_
  unfold rc
  split
  ·show B r j=sm k fun t=>R t j*X t r
   rw [E.top r j b hj]
   exact D7 fun m _=>aV _ _
  ·rfl
 show _=dt k (rc X i fun r=>B r j)
 rw [d,B9f X hi (fun t=>R t j) X,A31 (k:=i) hi fun t a e=>?_]
 ·rw [A69,aV];rfl
 ·rcases Nat.lt_or_ge t i with h|h
  ·rw [C1n (rc X i (X t)) (p:=t) (q:=i) h hi fun r _=>by unfold rc;rw [iN (by omega),iP rfl]]
   exact aX _
  ·rw [C1n (rc X i (X t)) (p:=i) (q:=t) (by omega) a fun r _=>by unfold rc;rw [iP rfl,iN (by omega)]]
   exact aX _
def Elim.whole(E:Elim n w B R cs k)(hB:∀ i j,i<n->j<w->Wh (B i j)){i j:Nat}(hi:i<n)(hj:j<w):Wh (dp B cs k*R i j):=by
 by_cases h:i<k
 ·rw [E.above h hj]
  refine C3q fun c r a b=>?_
  have:=E.kn
  unfold rc
  split
  ·exact hB r j (by omega) hj
  ·exact hB r _ (by omega) (E.cw c a)
 ·rw [E.below hi (by omega) hj]
  refine C3q fun c r a b=>?_
  refine hB _ _ ?_ ?_
  ·split<;>omega
  ·split
   ·exact E.cw c (by assumption)
   ·exact hj
def Elim.next(E:Elim n w B R cs k){j:Nat}(hk:k<n)(hj:j<w)(hc:cs k=j):dp B cs (k+1)=dp B cs k*R k j:=by
 rw [E.below hk (aF _) hj]
 refine V6 fun c r b e=>?_
 have d:(if r<k then r else k)=r:=by split<;>omega
 have a:(if c<k then cs c else j)=cs c:=by
  split
  ·rfl
  ·have:c=k:=by omega
   rw [this,hc]
 rw [d,a]
def Bt(R:Nat->Nat->Rat)(k j:Nat):Nat->Nat->Rat:=fun a b=>if a=k then R k b/R k j else R a b-R a j*(R k b/R k j)
def Elim.step(E:Elim n w B R cs k){j:Nat}(hk:k<n)(hj:j<w)(hc:cs k=j)(hne:R k j≠0):Elim n w B (Bt R k j) cs (k+1):=by
 have d:∀ m,m<k->R k (cs m)=0:=fun m o=>E.low k m hk (aF _) o
 have f:R k j/R k j=1:=by grind
 refine ⟨by omega,fun m o=>?_,fun l m A o=>?_,fun i m p s o=>?_,fun l b A q=>?_,fun i b p s q=>?_⟩
 ·by_cases e:m=k
  ·rw [e,hc];exact hj
  ·exact E.cw m (by omega)
 ·unfold Bt
  by_cases t:m=k
  ·subst t
   rw [hc]
   by_cases c:l=m
   ·rw [iP c,iP c];exact f
   ·rw [iN c,iN c,f];grind
  ·have a:m<k:=by omega
   rw [d m a]
   by_cases c:l=k
   ·subst c
    rw [iP rfl,iN (by omega)];grind
   ·rw [iN c,E.piv l m (by omega) a]
    grind
 ·unfold Bt
  rw [iN (by omega)]
  by_cases t:m=k
  ·subst t
   rw [hc,f];grind
  ·have a:m<k:=by omega
   rw [d m a,E.low i m p (by omega) a]
   grind
 ·rw [sm]
  have r:(Bt R k j) k b=R k b/R k j:=by unfold Bt;rw [iP rfl]
  have u:sm k (fun m=>B l (cs m)*Bt R k j m b)=sm k (fun m=>B l (cs m)*R m b)-sm k (fun m=>B l (cs m)*R m j)*(R k b/R k j):=by
   have:(fun m=>B l (cs m)*Bt R k j m b)=fun m=>if m=k then B l (cs k)*(R k b/R k j) else B l (cs m)*R m b+(-(R k b/R k j))*(B l (cs m)*R m j):=by
    funext m
    unfold Bt
    by_cases e:m=k
    ·rw [iP e,iP e,e]
    ·rw [iN e,iN e];grind
   rw [this,D7 (g:=fun m=>B l (cs m)*R m b+(-(R k b/R k j))*(B l (cs m)*R m j)) fun m o=>by rw [iN (by omega)]]
   rw [Uk,Gz];grind
  rw [r,u,hc]
  by_cases c:l=k
  ·subst c
   have y:=E.bot l b hk (aF _) q
   have x:=E.bot l j hk (aF _) hj
   grind
  ·have y:=E.top l b (by omega) q
   have x:=E.top l j (by omega) hj
   grind
 ·rw [sm]
  have r:(Bt R k j) k b=R k b/R k j:=by unfold Bt;rw [iP rfl]
  have u:sm k (fun m=>B i (cs m)*Bt R k j m b)=sm k (fun m=>B i (cs m)*R m b)-sm k (fun m=>B i (cs m)*R m j)*(R k b/R k j):=by
   have:(fun m=>B i (cs m)*Bt R k j m b)=fun m=>if m=k then B i (cs k)*(R k b/R k j) else B i (cs m)*R m b+(-(R k b/R k j))*(B i (cs m)*R m j):=by
    funext m
    unfold Bt
    by_cases e:m=k
    ·rw [iP e,iP e,e]
    ·rw [iN e,iN e];grind
   rw [this,D7 (g:=fun m=>B i (cs m)*R m b+(-(R k b/R k j))*(B i (cs m)*R m j)) fun m o=>by rw [iN (by omega)]]
   rw [Uk,Gz];grind
  have z:Bt R k j i b=R i b-R i j*(R k b/R k j):=by unfold Bt;rw [iN (by omega)]
  have y:=E.bot i b p (by omega) q
  have x:=E.bot i j p (by omega) hj
  rw [r,u,z,hc]
  grind
def xch(k l:Nat)(i:Nat):Nat:=if i=k then l else if i=l then k else i
def Elim.swap(E:Elim n w B R cs k){l:Nat}(hk:k<=l)(hl:l<n):Elim n w (fun i=>B (xch k l i)) (fun i=>R (xch k l i)) cs k:=by
 have f:∀ i,i<k->xch k l i=i:=fun i e=>by unfold xch;rw [iN (by omega),iN (by omega)]
 have o:∀ i,i<n->k<=i->xch k l i<n/\k<=xch k l i:=fun i q p=>by unfold xch;split<;>(try split)<;>omega
 refine ⟨E.kn,E.cw,fun a m d b=>?_,fun i m e c b=>?_,fun a j d g=>?_,fun i j e c g=>?_⟩
 ·show R (xch k l a) _=_
  rw [f a d];exact E.piv a m d b
 ·have:=o i e c
  exact E.low _ m this.1 this.2 b
 ·show B (xch k l a) j=sm k fun m=>B (xch k l a) (cs m)*R (xch k l m) j
  rw [f a d,E.top a j d g]
  exact D7 fun m b=>by rw [f m b]
 ·have:=o i e c
  show B (xch k l i) j=R (xch k l i) j+sm k fun m=>B (xch k l i) (cs m)*R (xch k l m) j
  rw [E.bot _ j this.1 this.2 g]
  congr 1
  exact D7 fun m b=>by rw [f m b]
def C1o(B:Nat->Nat->Rat)(cs:Nat->Nat){k l:Nat}(hk:k<=l):dp (fun i=>B (xch k l i)) cs k=dp B cs k:=by
 refine V6 fun c r _ a=>?_
 show B (xch k l r) _=_
 unfold xch;rw [iN (by omega),iN (by omega)]
def Elim.start:Elim n w B B cs 0:=by
 refine ⟨bN _,fun m a=>by omega,fun l m b=>by omega,fun i m _ _ a=>by omega,fun l j b=>by omega,fun i j _ _ _=>by rw [sm,bU]⟩
def Elim.cs_congr{cs':Nat->Nat}(E:Elim n w B R cs k)(h:∀ m,m<k->cs m=cs' m):Elim n w B R cs' k:=by
 refine ⟨E.kn,fun m a=>by rw [<- h m a];exact E.cw m a,fun l m e a=>by rw [<- h m a];exact E.piv l m e a,fun i m d c a=>by rw [<- h m a];exact E.low i m d c a,fun l j e b=>?_,fun i j d c b=>?_⟩
 ·rw [E.top l j e b];exact D7 fun m a=>by rw [h m a]
 ·rw [E.bot i j d c b];congr 1;exact D7 fun m a=>by rw [h m a]
def B7m{cs':Nat->Nat}(h:∀ m,m<k->cs m=cs' m):dp B cs k=dp B cs' k:=V6 fun c r a _=>by rw [h c a]
end
end Go.Proofs.YtmbfcbbkbefgfaaGreatDoor
namespace Go.Proofs.YtmbfcbbkbefgfaaGreatDoor
set_option maxRecDepth 20000
def fnd(p:Nat->Bool):Nat->Nat->Nat
 | 0,i=>i
 | f+1,i=>bif p i then i else fnd p f (i+1)
def A44(p:Nat->Bool):∀ f i,i<=fnd p f i/\fnd p f i<=i+f:=by
 intro f
 induction f with
 | zero=>intro i;simp [fnd]
 | succ f ih=>
  intro i
  unfold fnd
  cases p i with
  | true=>simp
  | false=>have:=ih (i+1);simp only [cond_false];omega
def A0w(p:Nat->Bool):∀ f i,fnd p f i<i+f->p (fnd p f i)=true:=by
 intro f
 induction f with
 | zero=>intro i h;simp [fnd] at h
 | succ f ih=>
  intro i h
  unfold fnd at h ⊢
  cases hp:p i with
  | true=>simp only [hp,cond_true]
  | false=>simp only [hp,cond_false] at h ⊢;exact ih (i+1) (by omega)
def Tk(p:Nat->Bool):∀ f i j,i<=j->j<fnd p f i->p j=false:=by
 intro f
 induction f with
 | zero=>intro i j b a;simp [fnd] at a;omega
 | succ f ih=>
  intro i j b a
  unfold fnd at a
  cases hp:p i with
  | true=>simp only [hp,cond_true] at a;omega
  | false=>
   simp only [hp,cond_false] at a
   by_cases e:j=i
   ·rw [e];exact hp
   ·exact ih (i+1) j (by omega) a
def B3k{p q:Nat->Bool}: ∀ f i,(∀ j,i<=j->j<i+f->p j=q j)->fnd p f i=fnd q f i:=by
 intro f
 induction f with
 | zero=>intros;rfl
 | succ f ih=>
  intro i h
  unfold fnd
  rw [h i (by omega) (by omega),ih (i+1) fun j b a=>h j (by omega) (by omega)]
def B3j(p:Nat->Bool){f i k:Nat}(h1:i<=k)(h2:k<=i+f)(h3:∀ j,i<=j->j<k->p j=false)(h4:k<i+f->p k=true):fnd p f i=k:=by
 have a:=A44 p f i
 rcases Nat.lt_trichotomy (fnd p f i) k with h|h|h
 ·have:=A0w p f i (by omega);rw [h3 _ a.1 h] at this;cases this
 ·exact h
 ·have:=Tk p f i k h1 h;rw [h4 (by omega)] at this;cases this
structure ES where
 R:Nat->Nat->Rat
 cs:List Nat
 det:Rat
def elimE(R:Nat->Nat->Rat)(k j:Nat):Nat->Nat->Rat:=fun a b=>if a=k then R k b/R k j else if R a j=0\/b<j then R a b else R a b-R a j*(R k b/R k j)
def Hm(n c:Nat)(s:ES):Nat:=fnd (fun i=>decide (s.R i c≠0)) (n-s.cs.length) s.cs.length
def Fp(n c:Nat)(s:ES):ES:=
 if s.cs.length<n then
  if Hm n c s<n then
   { R:=elimE (fun i=>s.R (xch s.cs.length (Hm n c s) i)) s.cs.length c
     cs:=s.cs++[c]
     det:=(if Hm n c s=s.cs.length then s.det else-s.det)*s.R (Hm n c s) c }
  else { s with det:=0 }
 else s
def A87(n:Nat)(s:ES):Nat->ES
 | 0=>s
 | c+1=>Fp n c (A87 n s c)
structure PS where
 M:Nat->Nat->Int
 S:Nat->Rat
 cs:List Nat
 last:Int
 sgn:Int
def clr(M:Nat->Nat->Int)(r c:Nat)(d:Int):Nat->Nat->Int:=fun a b=>if a=r then M r b else (M r c*M a b-M a c*M r b).tdiv d
def Um(n c:Nat)(s:PS):Nat:=fnd (fun i=>decide (s.M i c≠0)) (n-s.cs.length) s.cs.length
def Ia(n c:Nat)(s:PS):PS:=
 if Um n c s<n then
  { M:=clr (fun i=>s.M (xch s.cs.length (Um n c s) i)) s.cs.length c s.last
    S:=fun i=>s.S (xch s.cs.length (Um n c s) i)
    cs:=s.cs++[c]
    last:=s.M (Um n c s) c
    sgn:=if Um n c s=s.cs.length then s.sgn else-s.sgn }
 else s
def Co(n:Nat)(s:PS):Nat->PS
 | 0=>s
 | c+1=>Ia n c (Co n s c)
def pr:Nat->(Nat->Rat)->Rat
 | 0,_=>1
 | n+1,f=>pr n f*f n
def B75{n:Nat}{f g:Nat->Rat}(h:∀ i,i<n->f i=g i):pr n f=pr n g:=by
 induction n with
 | zero=>rfl
 | succ n ih=>rw [pr,pr,ih (fun i a=>h i (by omega)),h n (by omega)]
def Tg(k l:Nat):xch k l k=l:=by unfold xch;rw [iP rfl]
def Ro{k l i n:Nat}(hk:k<n)(hl:l<n)(hi:i<n):xch k l i<n:=by unfold xch;split<;>(try split)<;>omega
def B1h{k l i:Nat}(hkl:k<=l)(hi:k<=i):k<=xch k l i:=by unfold xch;split<;>(try split)<;>omega
def A2k{k l i:Nat}(hkl:k<=l)(hi:i<k):xch k l i=i:=by unfold xch;rw [iN (by omega),iN (by omega)]
def A5w{x d z:Int}(hd:d≠0)(h:x=d*z):x.tdiv d=z:=by
 rw [h,dO _ hd]
structure ERel (n w c:Nat) (A:Nat->Nat->Rat) (s:ES) (t:PS):Prop where
 cs:s.cs=t.cs
 elim:∃ B,(∀ i j,i<n->j<w->Wh (B i j))/\Elim n w B (fun i j=>if i<s.cs.length then s.R i j else t.S i*s.R i j) (fun m=>s.cs.getD m 0) s.cs.length/\(t.last:Rat)=dp B (fun m=>s.cs.getD m 0) s.cs.length
 last:t.last≠0
 val:∀ i j,i<n->j<w->(t.M i j:Rat)=t.last*(if i<s.cs.length then s.R i j else t.S i*s.R i j)
 scale:∀ i,i<n->t.S i≠0
 zero:∀ i j,i<n->s.cs.length<=i->j<c->s.R i j=0
 asc:s.cs.length<=c
 det:s.cs.length=c->s.det*pr s.cs.length t.S=t.sgn*t.last
 miss:s.cs.length<c->s.cs.length<n->s.det=0
 sgn:t.sgn=1\/t.sgn= -1
def W8{z:Int}(h:z≠0):(z:Rat)≠0:=by
 intro e
 exact h (by exact_mod_cast e)
def ERel.start{n w:Nat}{A:Nat->Nat->Rat}{M:Nat->Nat->Int}{S:Nat->Rat}(h:∀ i j,i<n->j<w->(M i j:Rat)=S i*A i j)(hS:∀ i,i<n->S i≠0):ERel n w 0 A ⟨A,[],1⟩ ⟨M,S,[],1,1⟩:=by
 have e:∀ (x:Rat),((1:Int):Rat)*x=x:=fun x=>by
  have:((1:Int):Rat)=1:=rfl
  rw [this,cT]
 refine ⟨rfl,⟨fun i j=>S i*A i j,fun i j b a=>⟨M i j,(h i j b a).symm⟩,?_,rfl⟩,(by decide:(1:Int)≠0),fun i j b a=>?_,hS,fun i j _ _ a=>by omega,aF _,fun _=>?_,fun h=>by simp at h,.inl rfl⟩
 ·have:(fun i j=>if i<([]:List Nat).length then A i j else S i*A i j)=fun i j=>S i*A i j:=by
   funext i j;rw [iN (by simp)]
  show Elim n w _ (fun i j=>if i<([]:List Nat).length then A i j else S i*A i j) _ 0
  rw [this]
  exact Elim.start
 ·show (M i j:Rat)=((1:Int):Rat)*(if i<([]:List Nat).length then A i j else S i*A i j)
  rw [e,iN (by simp),h i j b a]
 ·show (1:Rat)*pr 0 S=((1:Int):Rat)*((1:Int):Rat)
  rw [e]
  exact cT _
def A3z(l:List Nat)(c:Nat):∀ m,m<l.length->(l++[c]).getD m 0=l.getD m 0:=by
 intro m a
 rw [aR,aR,bF a]
def A40(l:List Nat)(c:Nat):(l++[c]).getD l.length 0=c:=by
 rw [aR,cD (aF _)];simp
def ERel.row{n w c:Nat}{A:Nat->Nat->Rat}{s:ES}{t:PS}(h:ERel n w c A s t)(hc:c<w):Um n c t=Hm n c s:=by
 unfold Um Hm
 rw [<- h.cs]
 refine B3k _ _ fun j l k=>?_
 have a:=h.val j c (by omega) hc
 rw [iN (by omega)] at a
 have f:=W8 h.last
 have i:=h.scale j (by omega)
 refine decide_eq_decide.2 (not_congr ⟨fun e=>?_,fun e=>?_⟩)
 ·rw [e] at a
  have g:((0:Int):Rat)=0:=rfl
  rw [g] at a
  rcases Rat.mul_eq_zero.1 a.symm with b|b
  ·exact absurd b f
  ·rcases Rat.mul_eq_zero.1 b with d|d
   ·exact absurd d i
   ·exact d
 ·rw [e,aX,aX] at a
  exact_mod_cast a
def ERel.step{n w c:Nat}{A:Nat->Nat->Rat}{s:ES}{t:PS}(h:ERel n w c A s t)(hc:c<w):ERel n w (c+1) A (Fp n c s) (Ia n c t):=by
 have Z:=h.row hc
 have a:=A44 (fun i=>decide (s.R i c≠0)) (n-s.cs.length) s.cs.length
 have H:=Tk (fun i=>decide (s.R i c≠0)) (n-s.cs.length) s.cs.length
 have O:=A0w (fun i=>decide (s.R i c≠0)) (n-s.cs.length) s.cs.length
 have hR:fnd (fun i=>decide (s.R i c≠0)) (n-s.cs.length) s.cs.length=Hm n c s:=rfl
 rw [hR] at a H O
 obtain ⟨B,hB,E,hD⟩:=h.elim
 unfold Fp Ia
 rw [Z]
 by_cases C:Hm n c s<n
 ·have p:s.cs.length<n:=by omega
  rw [iP p,iP C,iP C,<- h.cs]
  generalize hr:Hm n c s=r at *
  generalize hl:s.cs.length=k at *
  have ai:s.R r c≠0:=by
   have:=O (by omega)
   simpa using this
  have E1:=E.swap (l:=r) a.1 C
  have L:∀ m,m<k->s.cs.getD m 0=(s.cs++[c]).getD m 0:=fun m hm=>(A3z s.cs c m (by omega)).symm
  have E2:=E1.cs_congr L
  have G:(s.cs++[c]).getD k 0=c:=by rw [<- hl];exact A40 _ _
  have f:(s.cs++[c]).length=k+1:=by rw [aC,hl];rfl
  have J:xch k r k=r:=Tg k r
  have aa:(if xch k r k<k then s.R (xch k r k) c else t.S (xch k r k)*s.R (xch k r k) c)=t.S r*s.R r c:=by rw [J,iN (by omega)]
  have ag:=h.scale r C
  have D:t.S r*s.R r c≠0:=by
   intro e
   rcases Rat.mul_eq_zero.1 e with e|e
   ·exact ag e
   ·exact ai e
  have E3:=E2.step (j:=c) p hc G (by show (if xch k r k<k then _ else _)≠0;rw [aa];exact D)
  have V:=E2.next (j:=c) p hc G
  have ae:dp (fun i=>B (xch k r i)) (fun m=>(s.cs++[c]).getD m 0) k=(t.last:Rat):=by
   rw [hD,<- B7m L,C1o B _ a.1]
  rw [ae] at V
  have af:(if xch k r k<k then s.R (xch k r k) c else t.S (xch k r k)*s.R (xch k r k) c)=t.S r*s.R r c:=aa
  have q:(t.M r c:Rat)=t.last*(t.S r*s.R r c):=by
   have:=h.val r c C hc
   rw [iN (by omega)] at this;exact this
  have N:dp (fun i=>B (xch k r i)) (fun m=>(s.cs++[c]).getD m 0) (k+1)=(t.M r c:Rat):=by
   rw [V,q]
   show (t.last:Rat)*(if xch k r k<k then s.R (xch k r k) c else t.S (xch k r k)*s.R (xch k r k) c)=_
   rw [af]
  have ad:=W8 h.last
  have W:t.M r c≠0:=by
   intro e
   rw [e] at q
   have h0:((0:Int):Rat)=0:=rfl
   rw [h0] at q
   rcases Rat.mul_eq_zero.1 q.symm with e1|e1
   ·exact ad e1
   ·exact D e1
  have hz:∀ b,b<c->s.R r b=0:=fun b hb=>h.zero r b C (by omega) hb
  have hQ:∀ i j,(if i<k+1 then elimE (fun i=>s.R (xch k r i)) k c i j else t.S (xch k r i)*elimE (fun i=>s.R (xch k r i)) k c i j)=Bt (fun i j=>if xch k r i<k then s.R (xch k r i) j else t.S (xch k r i)*s.R (xch k r i) j) k c i j:=by
   intro i j
   unfold elimE Bt
   by_cases e:i=k
   ·subst e
    simp only [if_true,J,iN (show ¬ r<i by omega),iP (show i<i+1 by omega)]
    grind
   ·have hb:s.R r j=0\/¬ j<c:=by
     by_cases u:j<c
     ·exact .inl (hz j u)
     ·exact .inr u
    simp only [iN e,J,iN (show ¬ r<k by omega)]
    by_cases d:i<k
    ·rw [iP (show i<k+1 by omega),A2k a.1 d,iP d,iP d]
     split
     ·rename_i o
      rcases o with o|o
      ·rw [o];grind
      ·rw [hz j o];grind
     ·grind
    ·have Q:¬ xch k r i<k:=by have:=B1h (i:=i) a.1 (by omega);omega
     rw [iN (show ¬ i<k+1 by omega),iN Q,iN Q]
     split
     ·rename_i o
      rcases o with o|o
      ·rw [o];grind
      ·rw [hz j o];grind
     ·grind
  have ah:(fun i j=>if i<k+1 then elimE (fun i=>s.R (xch k r i)) k c i j else t.S (xch k r i)*elimE (fun i=>s.R (xch k r i)) k c i j)=Bt (fun i j=>if xch k r i<k then s.R (xch k r i) j else t.S (xch k r i)*s.R (xch k r i) j) k c:=by
   funext i j;exact hQ i j
  have y:∀ i,i<n->xch k r i<n:=fun i d=>Ro p C d
  refine ⟨rfl,⟨fun i=>B (xch k r i),fun i j d u=>hB _ j (y i d) u,?_,?_⟩,W,fun i j d u=>?_,fun i d=>h.scale _ (y i d),fun i j d x u=>?_,?_,fun T=>?_,fun T _=>?_,?_⟩
  ·show Elim n w _ (fun i j=>if i<(s.cs++[c]).length then elimE (fun i=>s.R (xch k r i)) k c i j else t.S (xch k r i)*elimE (fun i=>s.R (xch k r i)) k c i j) _ (s.cs++[c]).length
   rw [f,ah]
   exact E3
  ·show (t.M r c:Rat)=dp _ _ (s.cs++[c]).length
   rw [f,N]
  ·show (clr (fun i=>t.M (xch k r i)) k c t.last i j:Rat)=(t.M r c:Rat)*(if i<(s.cs++[c]).length then elimE (fun i=>s.R (xch k r i)) k c i j else t.S (xch k r i)*elimE (fun i=>s.R (xch k r i)) k c i j)
   rw [f,hQ i j]
   unfold clr
   by_cases e:i=k
   ·subst e
    rw [iP rfl]
    show (t.M (xch i r i) j:Rat)=_
    rw [J]
    unfold Bt
    simp only [if_true,J,iN (show ¬ r<i by omega)]
    have:=h.val r j C u
    rw [iN (by omega)] at this
    rw [this,q]
    grind
   ·rw [iN e]
    show (((t.M (xch k r k) c*t.M (xch k r i) j-t.M (xch k r i) c*t.M (xch k r k) j).tdiv t.last:Int):Rat)=_
    rw [J]
    have hw:=E3.whole (fun i j d u=>hB _ j (y i d) u) d u
    rw [N] at hw
    obtain ⟨z,ac⟩:=hw
    have v1:=h.val (xch k r i) j (y i d) u
    have v2:=h.val (xch k r i) c (y i d) hc
    have v3:=h.val r j C u
    rw [hl] at v1 v2 v3
    rw [iN (show ¬ r<k by omega)] at v3
    have Q:t.M r c*t.M (xch k r i) j-t.M (xch k r i) c*t.M r j=t.last*z:=by
     have:((t.M r c*t.M (xch k r i) j-t.M (xch k r i) c*t.M r j:Int):Rat)=((t.last*z:Int):Rat):=by
      rw [Rat.intCast_sub,bC,bC,bC,<- ac,v1,v2,v3,q]
      unfold Bt
      simp only [iN e,J,iN (show ¬ r<k by omega)]
      generalize (if xch k r i<k then s.R (xch k r i) j else t.S (xch k r i)*s.R (xch k r i) j)=u1
      generalize (if xch k r i<k then s.R (xch k r i) c else t.S (xch k r i)*s.R (xch k r i) c)=u2
      have o:t.S r*s.R r j/(t.S r*s.R r c)*(t.S r*s.R r c)=t.S r*s.R r j:=by
       rw [Rat.div_mul_cancel D]
      grind
     exact_mod_cast this
    rw [A5w h.last Q,<- ac]
  ·show elimE (fun i=>s.R (xch k r i)) k c i j=0
   have aj:k+1<=i:=by
    have:(s.cs++[c]).length<=i:=x
    omega
   have al:=B1h (i:=i) a.1 (show k<=i by omega)
   unfold elimE
   rw [iN (by omega)]
   simp only [J]
   by_cases e:j=c
   ·subst e
    split
    ·rename_i o
     rcases o with o|o
     ·exact o
     ·omega
    ·grind
   ·rw [iP (.inr (by omega))]
    exact h.zero _ j (y i d) (by omega) (by omega)
  ·show (s.cs++[c]).length<=c+1
   have:=h.asc
   omega
  ·show (if r=k then s.det else -s.det)*s.R r c*pr (s.cs++[c]).length (fun i=>t.S (xch k r i))=((if r=k then t.sgn else -t.sgn:Int):Rat)*(t.M r c:Rat)
   have ak:k=c:=by
    have:(s.cs++[c]).length=c+1:=T
    omega
   have hd:=h.det (by omega)
   rw [hl] at hd
   rw [f,pr,J,B75 (g:=t.S) fun i d=>by rw [A2k a.1 d],q]
   by_cases e:r=k
   ·rw [iP e,iP e];grind
   ·rw [iN e,iN e,Rat.intCast_neg];grind
  ·show (if r=k then s.det else -s.det)*s.R r c=0
   have:(s.cs++[c]).length<c+1:=T
   have hd:=h.miss (by omega) (by omega)
   rw [hd]
   split<;>grind
  ·show (if r=k then t.sgn else -t.sgn)=1\/(if r=k then t.sgn else -t.sgn)= -1
   have:=h.sgn
   split<;>omega
 ·rw [iN C,iN C]
  have X:∀ i,i<n->s.cs.length<=i->s.R i c=0:=by
   intro i d x
   have:=H i x (by omega)
   simpa using this
  have F:∀ i j,i<n->s.cs.length<=i->j<c+1->s.R i j=0:=by
   intro i j d x u
   by_cases e:j=c
   ·rw [e];exact X i d x
   ·exact h.zero i j d x (by omega)
  by_cases p:s.cs.length<n
  ·rw [iP p]
   exact ⟨h.cs,⟨B,hB,E,hD⟩,h.last,h.val,h.scale,F,cU h.asc,fun T=>by have:=h.asc;have:s.cs.length=c+1:=T;omega,fun _ _=>rfl,h.sgn⟩
  ·rw [iN p]
   exact ⟨h.cs,⟨B,hB,E,hD⟩,h.last,h.val,h.scale,F,cU h.asc,fun T=>by have:=h.asc;omega,fun _ Q=>absurd Q p,h.sgn⟩
def ERel.run{n w:Nat}{A:Nat->Nat->Rat}{s:ES}{t:PS}(h:ERel n w 0 A s t):∀ c,c<=w->ERel n w c A (A87 n s c) (Co n t c):=by
 intro c
 induction c with
 | zero=>exact fun _=>h
 | succ c ih=>exact fun a=>(ih (by omega)).step (by omega)
end Go.Proofs.YtmbfcbbkbefgfaaGreatDoor
namespace Go.Proofs.YtmbfcbbkbefgfaaGreatDoor
set_option maxRecDepth 20000
def Sz.elimE{n w k j m:Nat}{R:Nat->Nat->Rat}(hR:∀ a b,a<n->b<w->Sz m (R a b))(hk:k<n)(hj:j<w)(hm:1<=m){a b:Nat}(ha:a<n)(hb:b<w):Sz (7*m) (elimE R k j a b):=by
 have c:Sz (m+m) (R k b/R k j):=(hR k b hk hb).div (hR k j hk hj) hm
 unfold Go.Proofs.YtmbfcbbkbefgfaaGreatDoor.elimE
 split
 ·exact c.mono (by omega)
 ·split
  ·exact (hR a b ha hb).mono (by omega)
  ·exact ((hR a b ha hb).sub ((hR a j ha hj).mul c)).mono (by omega)
def C0x(n c:Nat)(s:ES)(h:s.cs.length<=n):s.cs.length<=Hm n c s/\Hm n c s<=n:=by
 have:=A44 (fun i=>decide (s.R i c≠0)) (n-s.cs.length) s.cs.length
 unfold Hm
 omega
structure SzE (n w m:Nat) (s:ES):Prop where
 R:∀ a b,a<n->b<w->Sz (7^s.cs.length*m) (s.R a b)
 det:Sz (7^s.cs.length*m) s.det
 len:s.cs.length<=n
def A0k(k m:Nat)(hm:1<=m):1<=7^k*m:=by
 have:0<7^k:=cY (by decide)
 exact Nat.mul_pos this hm
def SzE.step{n w m c:Nat}{s:ES}(h:SzE n w m s)(hm:1<=m)(hc:c<w):SzE n w m (Fp n c s):=by
 have l:=C0x n c s h.len
 have k:=A0k s.cs.length m hm
 unfold Fp
 by_cases d:s.cs.length<n
 ·rw [iP d]
  by_cases f:Hm n c s<n
  ·rw [iP f]
   have e:(s.cs++[c]).length=s.cs.length+1:=by simp
   have j:7^(s.cs.length+1)*m=7*(7^s.cs.length*m):=by rw [dS,aN (7^s.cs.length) 7,cZ]
   refine ⟨fun a b i g=>?_,?_,?_⟩
   ·show Sz (7^(s.cs++[c]).length*m) _
    rw [e,j]
    exact Sz.elimE (n:=n) (w:=w) (fun a b i g=>h.R _ b (Ro d f i) g) d hc k i g
   ·show Sz (7^(s.cs++[c]).length*m) ((if Hm n c s=s.cs.length then s.det else -s.det)*s.R (Hm n c s) c)
    rw [e,j]
    have:Sz (7^s.cs.length*m) (if Hm n c s=s.cs.length then s.det else -s.det):=by
     split
     ·exact h.det
     ·exact h.det.neg
    exact (this.mul (h.R _ c f hc)).mono (by omega)
   ·show (s.cs++[c]).length<=n
    omega
  ·rw [iN f]
   exact ⟨h.R,Sz.zero k,h.len⟩
 ·rw [iN d];exact h
def SzE.run{n w m:Nat}{s:ES}(h:SzE n w m s)(hm:1<=m):∀ c,c<=w->SzE n w m (A87 n s c):=by
 intro c
 induction c with
 | zero=>exact fun _=>h
 | succ c ih=>exact fun a=>(ih (by omega)).step hm (by omega)
def B84{m:Nat}{x d:Int}(h:ZB m x):ZB m (x.tdiv d):=by
 refine h.le ?_
 rw [Int.natAbs_tdiv]
 exact Nat.div_le_self _ _
def ZB.clr{n w k j m:Nat}{M:Nat->Nat->Int}{d:Int}(hM:∀ a b,a<n->b<w->ZB m (M a b))(hk:k<n)(hj:j<w){a b:Nat}(ha:a<n)(hb:b<w):ZB (2*m+1) (clr M k j d a b):=by
 unfold Go.Proofs.YtmbfcbbkbefgfaaGreatDoor.clr
 split
 ·exact (hM k b hk hb).mono (by omega)
 ·refine B84 ?_
  have e:=(hM k j hk hj).mul (hM a b ha hb)
  have c:=(hM a j ha hj).mul (hM k b hk hb)
  exact (e.sub c).mono (by omega)
def A65(n c:Nat)(s:PS)(h:s.cs.length<=n):s.cs.length<=Um n c s/\Um n c s<=n:=by
 have:=A44 (fun i=>decide (s.M i c≠0)) (n-s.cs.length) s.cs.length
 unfold Um
 omega
structure ZbP (n w m l:Nat) (s:PS):Prop where
 M:∀ a b,a<n->b<w->ZB (3^s.cs.length*m) (s.M a b)
 last:ZB (3^s.cs.length*m) s.last
 S:∀ a,a<n->Sz l (s.S a)
 len:s.cs.length<=n
def A0l(k m:Nat)(hm:1<=m):1<=3^k*m:=by
 have:0<3^k:=cY (by decide)
 exact Nat.mul_pos this hm
def ZbP.step{n w m l c:Nat}{s:PS}(h:ZbP n w m l s)(hm:1<=m)(hc:c<w):ZbP n w m l (Ia n c s):=by
 have k:=A65 n c s h.len
 have o:=A0l s.cs.length m hm
 unfold Ia
 by_cases d:Um n c s<n
 ·rw [iP d]
  have g:s.cs.length<n:=by omega
  have e:(s.cs++[c]).length=s.cs.length+1:=by simp
  have j:3^(s.cs.length+1)*m=3*(3^s.cs.length*m):=by rw [dS,aN (3^s.cs.length) 3,cZ]
  refine ⟨fun a b f i=>?_,?_,fun a f=>h.S _ (Ro g d f),?_⟩
  ·show ZB (3^(s.cs++[c]).length*m) _
   rw [e,j]
   exact (ZB.clr (n:=n) (w:=w) (fun a b f i=>h.M _ b (Ro g d f) i) g hc f i).mono (by omega)
  ·show ZB (3^(s.cs++[c]).length*m) (s.M (Um n c s) c)
   rw [e,j]
   exact (h.M _ c d hc).mono (by omega)
  ·show (s.cs++[c]).length<=n
   omega
 ·rw [iN d];exact h
def ZbP.run{n w m l:Nat}{s:PS}(h:ZbP n w m l s)(hm:1<=m):∀ c,c<=w->ZbP n w m l (Co n s c):=by
 intro c
 induction c with
 | zero=>exact fun _=>h
 | succ c ih=>exact fun a=>(ih (by omega)).step hm (by omega)
structure Asc (l:List Nat) (c:Nat):Prop where
 lt:∀ x∈l,x<c
 asc:l.Pairwise (· < ·)
def Asc.snoc{l:List Nat}{c:Nat}(h:Asc l c):Asc (l++[c]) (c+1):=by
 refine ⟨fun x d=>?_,?_⟩
 ·rcases List.mem_append.1 d with d|d
  ·have:=h.lt x d;omega
  ·simp at d;omega
 ·rw [List.pairwise_append]
  refine ⟨h.asc,by simp,fun a f b e=>?_⟩
  simp at e;subst e;exact h.lt a f
def Asc.mono{l:List Nat}{c d:Nat}(h:Asc l c)(hcd:c<=d):Asc l d:=⟨fun x a=>Nat.lt_of_lt_of_le (h.lt x a) hcd,h.asc⟩
def A86(n:Nat)(s:ES)(h:s.cs=[]):∀ c,Asc (A87 n s c).cs c:=by
 intro c
 induction c with
 | zero=>show Asc s.cs 0;rw [h];exact ⟨by simp,.nil⟩
 | succ c ih=>
  show Asc (Fp n c (A87 n s c)).cs (c+1)
  unfold Fp
  split
  ·split
   ·exact ih.snoc
   ·exact ih.mono (by omega)
  ·exact ih.mono (by omega)
def Cd(z:Int)(l:List bY):iAt (I z::l) 0=z:=rfl
def A9u:prog.cellsOf D4=4/\(prog.info? D4).isSome=true:=Ef
def B24:prog.cellsOf K4=4/\(prog.info? K4).isSome=true:=Ti
section
variable {α β:Type} [E:Enc α] {R:aG->α->β->Prop}
def OwnK(R:aG->α->β->Prop)(h h':aG)(b n k:Nat)(f:Nat->β):Prop:=∃ g o xs,h.le g/\Sep h' g o/\RowX o b xs/\xs.length=n/\Row R g xs k f
def OwnK.zero{h:aG}{b n:Nat}{f:Nat->β}{e:bW}{z:α}(hb:h b=none):OwnK R h (B9i e h b (aO n z)) b n 0 f:=
 ⟨h,Cp.put b (.cells ((aO n z).flatMap enc).toArray e),aO n z,B3 _,Ci hb,RowX.mk,by simp,Row.nil⟩
def OwnK.store(m:Mon R){P:cV}{t:bW}(one:P.cellsOf t=E.default.size/\(P.info? t).isSome=true){h h' g g' o:aG}{b n k:Nat}{f:Nat->β}{xs:List α}(lg:h.le g)(lg':g.le g')(s:Sep h' g' o)(rb:RowX o b xs)(hn:xs.length=n)(r:Row R g xs k f)(hk:k<n){v:bY}{y:α}(hv:v.cells=(enc y).toArray)(hy:R g' y (f k)){K:Unit->aG->Prop}
 (x:∀ h2,OwnK R h h2 b n (k+1) f->K () h2):wpH P (aU t (.pointer (some (aE ⟨b,0,none⟩ (k*E.default.size)))) v) K h':=by
 refine T7 one hv s rb (by omega) ?_
 intro h2 a i e c d
 exact x h2 ⟨g',a,_,Heap.le_trans lg lg',c,d,by simpa using hn,(r.mono m lg').set (by omega) hy⟩
end
def Ck:QV:=⟨false,none,0,0,false,none,0,0⟩
section
variable {h:aG} {K:VP} {A:Option aJ} {n c m:Nat} {ls:Nat->List UInt8} {f:Nat->Rat} {a w:QV} {q:Rat}
def Ae(gl:Gl h)(r:bB SSr h A n ls)(hn:n<=1000000)(hl:LL n ls)
 (hK1:(∀ i,i<n->cR (ls i))->∀ b h',Own RQr h h' b n (fun i=>rv (ls i))->K (.tuple #[.slice (some ⟨b,0,none⟩) n n,.bool true]) h')
 (hK0:¬ (∀ i,i<n->cR (ls i))->∀ h',h.le h'->K (.tuple #[.slice none 0 0,.bool false]) h'):aW prog Es #[.slice A n c] h K:=by
 refine A7e _ _ _ ?_
 unfold A9a
 refine K8 B25 (zx:=Ck) rfl (by omega) (by omega) (by omega) (by omega) ?_
 intro b M
 refine ⟨_,_,_,rfl,fun L x=>∃ k:Nat,k<=n/\L=[I k]/\(∀ i,i<k->cR (ls i))/\OwnK RQr h x b n k (fun i=>rv (ls i)),fun L _=>n-(iAt L 0).toNat,⟨0,by omega,rfl,fun i N=>by omega,OwnK.zero M⟩,?_⟩
 rintro t x ⟨k,T,J,f,g,o,S,j,s,F,B,E⟩
 obtain rfl:=sI1 J
 refine B6 (fun u=>?_) (fun Q=>?_)
 ·have d:k<n:=by omega
  obtain ⟨a,rfl,G⟩:=(r.mono K0 (Heap.le_trans j s.le)).sat d
  refine ⟨a,rfl,by omega,by omega,_,G,?_⟩
  refine s.call (Yk (gl.mono j).tz (hl k d) ?_ ?_)
  ·intro q e w D m R C p
   refine ⟨_,_,_,_,_,_,_,_,_,rfl,_,rfl,by omega,by simpa using u,?_⟩
   refine OwnK.store K7 B24 (y:=w) j m p F B E d rfl (by show RQ D w (rv (ls k));rw [e,D9];exact R) ?_
   intro V H
   rw [wiS k (by omega)]
   refine ⟨⟨k+1,by omega,rfl,fun i N=>?_,H⟩,?_⟩
   ·by_cases O:i=k
    ·subst O;exact ⟨q,e⟩
    ·exact f i (by omega)
   ·simp only [Cd];omega
  ·intro z w D m _ C p
   exact ⟨_,_,_,_,_,_,_,_,_,rfl,hK0 (fun l=>z (l k d)) C (Heap.le_trans j (Heap.le_trans m p.le))⟩
 ·have:k=n:=by omega
  subst this
  exact hK1 f b x ⟨g,o,S,j,s,F,B,E⟩
def Hz(gl:Gl h)(r:bB RQr h A n f)(hn:n<=1000000)(hs:∀ i,i<n->Sz m (f i))(hm:m<=40000000)
 (hK:∀ b h',Own SSr h h' b n (fun i=>I9 (f i))->K (.slice (some ⟨b,0,none⟩) n n) h'):aW prog Er #[.slice A n c] h K:=by
 refine A7c _ _ _ ?_
 unfold A98
 refine K8 Y9 (zx:=([]:List UInt8)) rfl (by omega) (by omega) (by omega) (by omega) ?_
 intro b B
 refine ⟨_,_,_,rfl,fun L l=>∃ k:Nat,k<=n/\L=[I k]/\OwnK SSr h l b n k (fun i=>I9 (f i)),fun L _=>n-(iAt L 0).toNat,⟨0,by omega,rfl,OwnK.zero B⟩,?_⟩
 rintro t l ⟨k,N,z,g,o,M,e,s,u,p,q⟩
 obtain rfl:=sI1 z
 refine B6 (fun j=>?_) (fun H=>?_)
 ·have d:k<n:=by omega
  obtain ⟨a,w,rfl,J,C,E,F,G⟩:=(r.mono K7 e).qat d
  refine ⟨_,rfl,by omega,by omega,_,_,_,_,_,_,_,_,B5 s.le C,B5 s.le E,B5 s.le F,B5 s.le G,?_⟩
  refine s.call (T2 (gl.mono e).p10 J (hs k d) hm ?_)
  intro O D
  refine ⟨_,rfl,_,rfl,by omega,by simpa using j,?_⟩
  refine OwnK.store K0 Aa (y:=I9 (f k)) e (B3 _) D u p q d rfl rfl ?_
  intro Q x
  rw [wiS k (by omega)]
  exact ⟨⟨k+1,by omega,rfl,x⟩,by simp only [Cd];omega⟩
 ·have:k=n:=by omega
  subst this
  exact hK b l ⟨g,o,M,e,s,u,p,q⟩
def A3m(r:bB SSr h A n ls)(hn:n<=1000000)(hl:LL n ls)
 (hK1:(∀ i,i<n->cR (ls i))->∀ b h',Own NQr h h' b n (fun i=>rv (ls i))->K (.tuple #[.slice (some ⟨b,0,none⟩) n n,.bool true]) h')
 (hK0:¬ (∀ i,i<n->cR (ls i))->∀ h',h.le h'->K (.tuple #[.slice none 0 0,.bool false]) h'):aW prog Lo #[.slice A n c] h K:=by
 refine B8m _ _ _ ?_
 unfold C4i
 refine K8 Px (zx:=Ck) rfl (by omega) (by omega) (by omega) (by omega) ?_
 intro b M
 refine ⟨_,_,_,rfl,fun L x=>∃ k:Nat,k<=n/\L=[I k]/\(∀ i,i<k->cR (ls i))/\OwnK NQr h x b n k (fun i=>rv (ls i)),fun L _=>n-(iAt L 0).toNat,⟨0,by omega,rfl,fun i N=>by omega,OwnK.zero M⟩,?_⟩
 rintro t x ⟨k,T,J,f,g,o,S,l,s,F,B,E⟩
 obtain rfl:=sI1 J
 refine B6 (fun u=>?_) (fun Q=>?_)
 ·have d:k<n:=by omega
  obtain ⟨a,rfl,G⟩:=(r.mono K0 (Heap.le_trans l s.le)).sat d
  refine ⟨a,rfl,by omega,by omega,_,G,?_⟩
  refine s.call (B2n (hl k d) ?_ ?_)
  ·intro q e w D m R C p
   refine ⟨_,_,_,_,_,_,_,_,_,rfl,_,rfl,by omega,by simpa using u,?_⟩
   refine OwnK.store P8 A9u (y:=w) l m p F B E d rfl (by show NQ D w (rv (ls k));rw [e,D9];exact R) ?_
   intro V H
   rw [wiS k (by omega)]
   refine ⟨⟨k+1,by omega,rfl,fun i N=>?_,H⟩,?_⟩
   ·by_cases O:i=k
    ·subst O;exact ⟨q,e⟩
    ·exact f i (by omega)
   ·simp only [Cd];omega
  ·intro z w D m C p
   exact ⟨_,_,_,_,_,_,_,_,_,rfl,hK0 (fun j=>z (j k d)) C (Heap.le_trans l (Heap.le_trans m p.le))⟩
 ·have:k=n:=by omega
  subst this
  exact hK1 f b x ⟨g,o,S,l,s,F,B,E⟩
def A9r(r:bB NQr h A n f)(hn:n<=1000000)(hs:∀ i,i<n->Sz m (f i))(hm:m<=1000000000)
 (hK:∀ b h',Own SSr h h' b n (fun i=>I9 (f i))->K (.slice (some ⟨b,0,none⟩) n n) h'):aW prog A18 #[.slice A n c] h K:=by
 refine B5h _ _ _ ?_
 unfold C00
 refine K8 Y9 (zx:=([]:List UInt8)) rfl (by omega) (by omega) (by omega) (by omega) ?_
 intro b B
 refine ⟨_,_,_,rfl,fun L l=>∃ k:Nat,k<=n/\L=[I k]/\OwnK SSr h l b n k (fun i=>I9 (f i)),fun L _=>n-(iAt L 0).toNat,⟨0,by omega,rfl,OwnK.zero B⟩,?_⟩
 rintro t l ⟨k,N,z,g,o,M,e,s,u,p,q⟩
 obtain rfl:=sI1 z
 refine B6 (fun j=>?_) (fun H=>?_)
 ·have d:k<n:=by omega
  obtain ⟨a,w,rfl,J,C,E,F,G⟩:=(r.mono P8 e).qat d
  refine ⟨_,rfl,by omega,by omega,_,_,_,_,_,_,_,_,B5 s.le C,B5 s.le E,B5 s.le F,B5 s.le G,?_⟩
  refine s.call (A2w J (hs k d) hm ?_)
  intro O D
  refine ⟨_,rfl,_,rfl,by omega,by simpa using j,?_⟩
  refine OwnK.store K0 Aa (y:=I9 (f k)) e (B3 _) D u p q d rfl rfl ?_
  intro Q x
  rw [wiS k (by omega)]
  exact ⟨⟨k+1,by omega,rfl,x⟩,by simp only [Cd];omega⟩
 ·have:k=n:=by omega
  subst this
  exact hK b l ⟨g,o,M,e,s,u,p,q⟩
def Bf(f:Nat->Rat):Nat->Nat
 | 0=>1
 | n+1=>dU (Bf f n) (f n).den
def A0r(f:Nat->Rat):∀ n,0<Bf f n:=by
 intro n
 induction n with
 | zero=>exact Nat.one_pos
 | succ n ih=>exact Nat.lcm_pos ih (f n).den_pos
def A0s(f:Nat->Rat):∀ n i,i<n->(f i).den∣Bf f n:=by
 intro n
 induction n with
 | zero=>intro i h;omega
 | succ n ih=>
  intro i a
  by_cases e:i=n
  ·subst e;exact Nat.dvd_lcm_right _ _
  ·exact Nat.dvd_trans (ih i (by omega)) (Nat.dvd_lcm_left _ _)
def ZB.lcm{k j:Nat}{x y:Nat}(hx:ZB k (x:Int))(hy:ZB j (y:Int)):ZB (k+j) ((dU x y:Nat):Int):=by
 have:=hx.mul hy
 unfold ZB at *
 rw [dB]
 rw [Int.natAbs_mul,dB,dB] at this
 refine Nat.lt_of_le_of_lt ?_ this
 unfold dU
 exact Nat.div_le_self _ _
def Ld{f:Nat->Rat}{m:Nat}: ∀ n,(∀ i,i<n->Sz m (f i))->ZB (1+n*m) (Bf f n:Int):=by
 intro n
 induction n with
 | zero=>intro _;exact ZB.one (by omega)
 | succ n ih=>
  intro h
  have:=(ih fun i a=>h i (by omega)).lcm (h n (by omega)).den
  exact this.mono (by rw [aK,aL];omega)
def Dw(gl:Gl h)(r:bB RQr h A n f)(hn:n<=1000000)(hs:∀ i,i<n->Sz m (f i))(hm:1+n*m+m<=6400000000)
 (hK:∀ s A' n' c' h',h.le h'->ZI h' s A' n' c' (Bf f n:Int)->K (.agg #[.bool s,.slice A' n' c']) h'):aW prog J6 #[.slice A n c] h K:=by
 refine Jh _ _ _ ?_
 unfold Dp
 refine Ec (by omega) (by omega) ?_
 intro s1 A1 n1 c1 y Z Q
 refine ⟨_,_,_,_,rfl,fun L p=>∃ (k:Nat) (s:Bool) (B:Option aJ) (o q:Nat),k<=n/\L=[I k,.bool s,.slice B o q]/\h.le p/\ZI p s B o q (Bf f k:Int),fun L _=>n-(iAt L 0).toNat,⟨0,_,_,_,_,by omega,rfl,Z,Q⟩,?_⟩
 rintro t s B o q p ⟨k,z,B',g,j,hk,E,l,i⟩
 simp only [bH,cQ,cF,bJ,true_and,and_true] at E
 obtain ⟨rfl,rfl,rfl,rfl,rfl⟩:=E
 have G:B4 ((k:Int)+1)=((k+1:Nat):Int):=by rw [B7]<;>omega
 refine B6 (fun V=>?_) (fun aa=>?_)
 ·have x:k<n:=by omega
  obtain ⟨a,w,rfl,H,R,T,W,X⟩:=(r.mono K7 l).qat x
  have S:1+k*m<=6400000000:=by
   have:k*m<=n*m:=aD _ (by omega)
   omega
  have d:1+k*m+m<=6400000000:=by
   have:k*m<=n*m:=aD _ (by omega)
   omega
  have M:=(Ld k fun i hi=>hs i (by omega)).mono (show 1+k*m<=1+k*m+m by omega)
  have F:=(hs k x).den.mono (show m<=1+k*m+m by omega)
  refine ⟨_,rfl,by omega,by omega,_,_,_,_,_,_,_,_,R,T,W,X,?_⟩
  refine F9 H.den ⟨_,rfl,?_⟩
  have u:((if (f k).den=1 then 0 else ((f k).den:Int))=0)↔(f k).den=1:=by
   have:=(f k).den_pos
   split<;>omega
  have same:Bf f (k+1)=Bf f k->(∃ (k':Nat) (z:Bool) (B':Option aJ) (g j:Nat),k'<=n/\[I (B4 ((k:Int)+1)),.bool s,.slice B o q]=[I k',.bool z,.slice B' g j]/\h.le p/\ZI p z B' g j (Bf f k':Int))/\n-(iAt [I (B4 ((k:Int)+1)),.bool s,.slice B o q] 0).toNat<n-(iAt [I (k:Int),.bool s,.slice B o q] 0).toNat:=by
   intro e
   rw [G]
   exact ⟨⟨k+1,_,_,_,_,by omega,rfl,l,by rw [e];exact i⟩,by simp only [Cd];omega⟩
  refine O9 (B6 (fun y=>?_) (fun y=>?_))
  ·have C:=u.1 y
   exact same (by rw [Bf,C];exact Nat.lcm_one_right _)
  ·have C:(if (f k).den=1 then 0 else ((f k).den:Int))=((f k).den:Int):=iN fun e=>y (u.2 e)
   have b:=H.den
   rw [C] at b
   refine A5l b i F d ⟨_,rfl,?_⟩
   refine O9 (B6 (fun D=>?_) (fun D=>?_))
   ·have N:(f k).den=Bf f k:=by exact_mod_cast D
    exact same (by rw [Bf,N];exact Nat.lcm_self _)
   ·refine B1f (gl.mono l).tz i b M F d ?_
    intro A' n' c' h' O J
    refine ⟨_,_,_,_,rfl,?_⟩
    rw [G]
    refine ⟨⟨k+1,_,_,_,_,by omega,rfl,Heap.le_trans l O,?_⟩,by simp only [Cd];omega⟩
    have:Int.lcm (Bf f k:Int) ((f k).den:Int)=Bf f (k+1):=by simp [Int.lcm,Bf]
    rw [this] at J;exact J
 ·have:k=n:=by omega
  subst this
  exact hK _ _ _ _ p l i
def scl(q:Rat)(d:Int):Int:=q.num*d.tdiv q.den
def C16(q:Rat):q*(q.den:Rat)=(q.num:Rat):=by
 have h:=Rat.num_divInt_den q
 rw [cK] at h
 have a:((q.den:Int):Rat)≠0:=W8 (den_ne q)
 have e:((q.den:Int):Rat)=(q.den:Rat):=rfl
 rw [<- e]
 calc q*((q.den:Int):Rat)=(q.num:Rat)/((q.den:Int):Rat)*((q.den:Int):Rat):=by rw [h]
  _=q.num:=Rat.div_mul_cancel a
def B2e{q:Rat}{d:Int}(h:(q.den:Int)∣d):(scl q d:Rat)=q*d:=by
 obtain ⟨e,rfl⟩:=h
 unfold scl
 rw [dO _ (den_ne q),bC,bC]
 have b:q*(q.den:Rat)=(q.num:Rat):=C16 q
 have a:(((q.den:Nat):Int):Rat)=(q.den:Rat):=rfl
 rw [a,<- b,dM]
def B2d{q:Rat}{d:Int}{k:Nat}(hq:Sz m q)(hd:ZB k d):ZB (m+k) (scl q d):=hq.num.mul hd.tdiv
def Kx{s:Bool}{B:Option aJ}{bn bc:Nat}{d:Int}(i:RQ h w q)(j:ZI h s B bn bc d)(hq:Sz m q)(hd:ZB m d)(hm:m<=6400000000)
 (hK:∀ s A' n' c' h',h.le h'->ZI h' s A' n' c' (scl q d)->K (.agg #[.bool s,.slice A' n' c']) h'):aW prog Ij #[w.v,.agg #[.bool s,.slice B bn bc]] h K:=by
 refine B0x _ _ _ _ _ _ _ _ _ _ _ _ ?_
 unfold B5b
 refine F9 i.den ⟨_,rfl,?_⟩
 have b:((if q.den=1 then 0 else (q.den:Int))=0)↔q.den=1:=by
  have:=q.den_pos
  split<;>omega
 refine B6 (fun g=>?_) (fun g=>?_)
 ·have c:=b.1 g
  refine L4 i.num j hq.num hd hm ?_
  intro r A' n' c' h' l t
  refine ⟨_,_,_,_,rfl,hK _ _ _ _ _ l ?_⟩
  have:scl q d=q.num*d:=by unfold scl;rw [c];simp
  rw [this];exact t
 ·have c:(if q.den=1 then 0 else (q.den:Int))=(q.den:Int):=iN fun e=>g (b.2 e)
  have a:=i.den
  rw [c] at a
  refine Q3 j a hd hq.den hm (den_ne q) ?_
  intro r A1 y c1 n f p
  refine ⟨_,_,_,_,rfl,f,?_⟩
  refine L4 (i.num.mono f) p hq.num hd.tdiv hm ?_
  intro z A2 u c2 x k o
  exact ⟨_,_,_,_,rfl,k,hK _ _ _ _ _ (Heap.le_trans f k) o⟩
end
instance:Enc Int:=⟨⟨fun z=>[I z],1,fun _=>rfl,fun z v hv=>by rw [List.mem_singleton.1 hv];rfl⟩⟩
abbrev IIr:aG->Int->Int->Prop:=fun _ w z=>w=z
section
variable {α:Type} [E:Enc α]
def OwnSl(o:aG)(e:bW)(A:Option aJ)(c:Nat)(xs:List α):Prop:=
 xs.length<=c/\((c=0/\A=none)\/∃ b arr,A=some ⟨b,0,none⟩/\o b=some (.cells (cM arr) e)/\arr.length=c*E.default.size/\arr.take (xs.length*E.default.size)=xs.flatMap enc)
def OwnSl.nil{o:aG}{e:bW}:OwnSl o e none 0 ([]:List α):=⟨aF _,.inl ⟨rfl,rfl⟩⟩
def OwnSl.keep{o o':aG}{e:bW}{A:Option aJ}{c:Nat}{xs:List α}(w:OwnSl o e A c xs)(h:∀ b x,A=some ⟨b,0,none⟩->o b=some x->o' b=some x):OwnSl o' e A c xs:=by
 refine ⟨w.1,?_⟩
 rcases w.2 with i|⟨b,a,d,f,j,g⟩
 ·exact .inl i
 ·exact .inr ⟨b,a,d,h b _ d f,j,g⟩
def OwnSl.rowB{o:aG}{e:bW}{A:Option aJ}{c:Nat}{xs:List α}(w:OwnSl o e A c xs)(hne:xs≠[]):∃ b,A=some ⟨b,0,none⟩/\RowB o b xs:=by
 rcases w.2 with g|⟨b,a,i,d,j,f⟩
 ·exfalso
  have:=w.1
  have:=g.1
  have:xs.length≠0:=fun h=>hne (cP h)
  omega
 ·exact ⟨b,i,e,a.drop (xs.length*E.default.size),by rw [d,<- f,List.take_append_drop]⟩
def OwnSl.slF{o h:aG}{e:bW}{A:Option aJ}{c:Nat}{xs:List α}(w:OwnSl o e A c xs)(hl:o.le h):SlF h A xs:=by
 by_cases a:xs=[]
 ·rw [a];exact SlF.nil
 ·obtain ⟨b,rfl,r⟩:=w.rowB a
  exact r.slF hl
def OwnSl.priv{h g o:aG}{e:bW}{A:Option aJ}{c:Nat}{xs:List α}(s:Sep h g o)(w:OwnSl o e A c xs):∃ gb,PrivF h gb e A c xs/\∀ k x,h k=some x->A≠some ⟨k,0,none⟩->gb k=some x:=by
 rcases w.2 with ⟨m,p⟩|⟨b,d,f,j,n,l⟩
 ·subst m
  have i:xs=[]:=cP (by have:=w.1;omega)
  subst i
  exact ⟨h,PrivF.nil h e A,fun k x e _=>e⟩
 ·refine ⟨h.without b,⟨K9 xs,w.1,.inr ⟨b,d,f,Fh _ _,(O8 (s.own b _ j)).symm,n,l⟩⟩,fun k x e a=>?_⟩
  unfold Heap.without
  rw [iN]
  ·exact e
  ·rintro rfl;exact a f
def OwnSl.push{P:cV}{t e ty:bW}{z:bY}{bytes:Nat}(st:SliceT P t e z E.default.size bytes){h g o:aG}{A:Option aJ}{c:Nat}{xs:List α}(s:Sep h g o)(w:OwnSl o e A c xs){v:bY}{y:α}(hv:v.cells=(enc y).toArray)(hsz:E.default.size<=1000)
 (hb:(2*(xs.length+1)+192)*bytes<=281474976710656) (hn:xs.length+1<=9223372036854775807) {K1:aG->Prop} {K:Option aJ->Nat->Nat->aG->Prop}
 (x0:∀ h1,h.le h1->K1 h1)
 (x:∀ A' c' h' g' o',g.le g'->Sep h' g' o'->OwnSl o' e A' c' (xs++[y])->(∀ k u,o k=some u->A≠some ⟨k,0,none⟩->o' k=some u/\A'≠some ⟨k,0,none⟩)->K A' (xs.length+1) c' h'):
 wpH P (cH t 1 #[(0,v)]) (fun v' hp=>∃ (B:Option aJ) (m d:Nat),v'= .slice B m d/\K1 hp/\wpH P (bI #[t,t] ty #[.slice A xs.length c,.slice B m d]) (fun v1 hp1=>∃ (A':Option aJ) (n' c':Nat),v1= .slice A' n' c'/\K A' n' c' hp1) hp) h:=by
 obtain ⟨gb,p,G⟩:=w.priv s
 refine Nv st (vs:=[v]) (fun u hu=>by rw [List.mem_singleton.1 hu,hv];simp [E.default.len]) rfl (by simp;omega) rfl ?_
 intro b i
 have R:[v].flatMap (fun v=>v.cells.toList)=[y].flatMap enc:=by simp [hv]
 rw [R]
 refine ⟨_,_,_,rfl,x0 _ (Heap.le_put _ i),?_⟩
 have p':PrivF (h.put b (.cells ([y].flatMap enc).toArray e)) (gb.put b (.cells ([y].flatMap enc).toArray e)) e A c xs:=Priv.put p i _
 refine Y3 st p' (ys:=[y]) rfl (Lu e h b [y]) hb hn ?_
 intro A' c' h' g' hg hp
 refine ⟨_,_,_,rfl,?_⟩
 rw [aC]
 have H:∀ k u,h k=some u->A≠some ⟨k,0,none⟩->g' k=some u:=by
  intro k u a T
  have f:k≠b:=by rintro rfl;rw [i] at a;cases a
  exact hg k u (by rw [B8 _ _ f];exact G k u a T)
 have O:∀ k u,g k=some u->A≠some ⟨k,0,none⟩:=by
  intro k u a r
  rcases w.2 with ⟨_,W⟩|⟨j,q,l,n,_⟩
  ·rw [r] at W;cases W
  ·rw [r] at l
   simp only [aQ,aY,and_true] at l
   subst l
   rw [s.dis k _ n] at a;cases a
 rcases hp.2.2 with ⟨aa,_⟩|⟨j,q,l,n,J,ha,ht⟩
 ·exfalso
  have:=hp.2.1
  rw [aC] at this
  simp at this
  omega
 ·subst l
  let o':aG:=fun k=>if k=j then some (.cells (cM q) e) else if A=some ⟨k,0,none⟩ then none else o k
  have V:o' j=some (.cells (cM q) e):=by show (if j=j then _ else _)=_;rw [iP rfl]
  have M:∀ k,k≠j->A≠some ⟨k,0,none⟩->o' k=o k:=fun k h1 D=>by show (if k=j then _ else if _ then _ else _)=_;rw [iN h1,iN D]
  have S:∀ k,k≠j->A=some ⟨k,0,none⟩->o' k=none:=fun k h1 D=>by show (if k=j then _ else if _ then _ else _)=_;rw [iN h1,iP D]
  let g2:aG:=fun k=>match o' k with|some _=>none|none=>h' k
  have gs:∀ k u,o' k=some u->g2 k=none:=fun k u a=>by show (match o' k with|some _=>none|none=>h' k)=_;rw [a]
  have X:∀ k,o' k=none->g2 k=h' k:=fun k a=>by show (match o' k with|some _=>none|none=>h' k)=_;rw [a]
  have C:∀ k u,k≠j->g' k=some u->h' k=some u:=fun k u h1 a=>by rw [J,B8 _ _ h1];exact a
  have L:∀ k u,o k=some u->A≠some ⟨k,0,none⟩->k≠j:=by
   rintro k u a D rfl
   have:=H k u (s.own k u a) D
   rw [n] at this;cases this
  refine x _ c' h' g2 o' (fun k u a=>?_) ⟨fun k u a=>?_,fun k a=>(X k a).symm,gs⟩ ⟨hp.2.1,.inr ⟨j,q,rfl,V,ha,ht⟩⟩ (fun k u a D=>?_)
  ·have Q:o k=none:=by
    cases ho:o k with
    | none=>rfl
    | some y=>rw [s.dis k y ho] at a;cases a
   have r:=O k u a
   have N:=H k u (s.le k u a) r
   have F:k≠j:=by rintro rfl;rw [n] at N;cases N
   rw [X k (by rw [M k F r];exact Q)]
   exact C k u F N
  ·by_cases f:k=j
   ·subst f
    rw [V] at a;cases a
    rw [J,B9]
   ·by_cases r:A=some ⟨k,0,none⟩
    ·rw [S k f r] at a;cases a
    ·rw [M k f r] at a
     exact C k u f (H k u (s.own k u a) r)
  ·have f:=L k u a D
   refine ⟨by rw [M k f D];exact a,fun Z=>f ?_⟩
   simp only [aQ,aY,and_true] at Z
   exact Z.symm
end
structure Tb where
 bt:Nat
 bE:Nat
 bS:Nat
 rows:Nat
 cols:Nat
 cE:Nat
 cS:Nat
structure Tab (h g o:aG) (T:Tb) (M:Nat->Nat->Int) (S:Nat->Rat):Prop where
 sep:Sep h g o
 n1:T.bt≠T.bE
 n2:T.bt≠T.bS
 n3:T.bE≠T.bS
 head:∃ e,o T.bt=some (.cells #[I T.cols,.slice (some ⟨T.bE,0,none⟩) (T.rows*T.cols) T.cE,.slice (some ⟨T.bS,0,none⟩) T.rows T.cS] e)
 elems:∃ ws:List IV,RowB o T.bE ws/\ws.length=T.rows*T.cols/\∀ i j,i<T.rows->j<T.cols->∃ w,ws[i*T.cols+j]? = some w/\ZIr g w (M i j)
 scales:∃ ss:List QV,RowB o T.bS ss/\ss.length=T.rows/\Row RQr g ss T.rows S
 cE:T.rows*T.cols<=T.cE
 cS:T.rows<=T.cS
 small:T.rows<=10000/\T.cols<=10000
 pos:0<T.cols
def C5x(M:Nat->Nat->Int)(i j:Nat)(z:Int):Nat->Nat->Int:=fun a b=>if a=i/\b=j then z else M a b
def Bg{rows cols i j:Nat}(hi:i<rows)(hj:j<cols):i*cols+j<rows*cols:=by
 have:(i+1)*cols<=rows*cols:=aD _ hi
 rw [aK,aL] at this
 omega
def C19{cols i j i' j':Nat}(hj:j<cols)(hj':j'<cols)(h:i*cols+j=i'*cols+j'):i=i'/\j=j':=by
 have b:(i*cols+j)/cols=i:=by rw [aN,Nat.mul_add_div (by omega),bL hj,dE]
 have a:(i'*cols+j')/cols=i':=by rw [aN,Nat.mul_add_div (by omega),bL hj',dE]
 have:i=i':=by rw [<- b,<- a,h]
 subst this
 exact ⟨rfl,by omega⟩
section
variable {h g o:aG} {T:Tb} {M:Nat->Nat->Int} {S:Nat->Rat} {K:VP} {m:Nat}
def Tab.next(t:Tab h g o T M S){h' g':aG}(s:Sep h' g' o)(l:g.le g'):Tab h' g' o T M S:=by
 refine ⟨s,t.n1,t.n2,t.n3,t.head,?_,?_,t.cE,t.cS,t.small,t.pos⟩
 ·obtain ⟨k,r,b,a⟩:=t.elems
  refine ⟨k,r,b,fun i j c d=>?_⟩
  obtain ⟨w,e,m⟩:=a i j c d
  exact ⟨w,e,Kh _ _ _ _ l m⟩
 ·obtain ⟨f,r,b,a⟩:=t.scales
  exact ⟨f,r,b,a.mono K7 l⟩
def Tab.congr(t:Tab h g o T M S){M':Nat->Nat->Int}{S':Nat->Rat}(hM:∀ i j,i<T.rows->j<T.cols->M i j=M' i j)(hS:∀ i,i<T.rows->S i=S' i):Tab h g o T M' S':=by
 refine ⟨t.sep,t.n1,t.n2,t.n3,t.head,?_,?_,t.cE,t.cS,t.small,t.pos⟩
 ·obtain ⟨f,r,b,a⟩:=t.elems
  refine ⟨f,r,b,fun i j c d=>?_⟩
  rw [<- hM i j c d];exact a i j c d
 ·obtain ⟨e,r,b,a⟩:=t.scales
  exact ⟨e,r,b,a.congr hS⟩
def Tab.c0(t:Tab h g o T M S):h.cell? (aE ⟨T.bt,0,none⟩ 0)=some (I T.cols):=by
 obtain ⟨e,a⟩:=t.head
 refine t.sep.cell ?_
 rw [E6];unfold Heap.cell?;simp only [a];rfl
def Tab.c1(t:Tab h g o T M S):h.cell? (aE ⟨T.bt,0,none⟩ 1)=some (.slice (some ⟨T.bE,0,none⟩) (T.rows*T.cols) T.cE):=by
 obtain ⟨e,a⟩:=t.head
 refine t.sep.cell ?_
 rw [E6];unfold Heap.cell?;simp only [a];rfl
def Tab.c2(t:Tab h g o T M S):h.cell? (aE ⟨T.bt,0,none⟩ 2)=some (.slice (some ⟨T.bS,0,none⟩) T.rows T.cS):=by
 obtain ⟨e,a⟩:=t.head
 refine t.sep.cell ?_
 rw [E6];unfold Heap.cell?;simp only [a];rfl
def Tab.at(t:Tab h g o T M S){i j:Nat}(hi:i<T.rows)(hj:j<T.cols):∃ w:IV,ZIr g w (M i j)/\h.cell? (aE (aE ⟨T.bE,i*T.cols*2,none⟩ (j*2)) 0)=some (.bool w.s)/\h.cell? (aE (aE ⟨T.bE,i*T.cols*2,none⟩ (j*2)) 1)=some (.slice w.A w.n w.c):=by
 obtain ⟨f,r,m,d⟩:=t.elems
 obtain ⟨w,e,l⟩:=d i j hi hj
 have k:=Bg hi hj
 have a:f[i*T.cols+j]=w:=by
  rw [aI (by omega)] at e
  cases e;rfl
 have b:i*T.cols*2+j*2=(i*T.cols+j)*2:=by rw [aK]
 refine ⟨w,l,t.sep.cell ?_,t.sep.cell ?_⟩
 ·rw [E6,E6,b]
  exact r.cell (i:=i*T.cols+j) (by omega) (j:=0) (v:=.bool w.s) (by rw [a];rfl)
 ·rw [E6,E6,b]
  exact r.cell (i:=i*T.cols+j) (by omega) (j:=1) (v:=.slice w.A w.n w.c) (by rw [a];rfl)
def Tab.ato(t:Tab h g o T M S){i j:Nat}(hi:i<T.rows)(hj:j<T.cols):∃ w:IV,ZIr g w (M i j)/\o.cell? (aE (aE ⟨T.bE,i*T.cols*2,none⟩ (j*2)) 0)=some (.bool w.s)/\o.cell? (aE (aE ⟨T.bE,i*T.cols*2,none⟩ (j*2)) 1)=some (.slice w.A w.n w.c):=by
 obtain ⟨f,r,m,d⟩:=t.elems
 obtain ⟨w,e,l⟩:=d i j hi hj
 have k:=Bg hi hj
 have a:f[i*T.cols+j]=w:=by
  rw [aI (by omega)] at e
  cases e;rfl
 have b:i*T.cols*2+j*2=(i*T.cols+j)*2:=by rw [aK]
 refine ⟨w,l,?_,?_⟩
 ·rw [E6,E6,b]
  exact r.cell (i:=i*T.cols+j) (by omega) (j:=0) (v:=.bool w.s) (by rw [a];rfl)
 ·rw [E6,E6,b]
  exact r.cell (i:=i*T.cols+j) (by omega) (j:=1) (v:=.slice w.A w.n w.c) (by rw [a];rfl)
def Sep.le_le{h' g':aG}(s:Sep h g o)(s':Sep h' g' o)(l:g.le g'):h.le h':=fun k x e=>by
 cases ho:o k with
 | some y=>rw [s.own k y ho] at e;rw [s'.own k y ho];exact e
 | none=>rw [s.rest k ho] at e;rw [s'.rest k ho];exact l k x e
def Tab.sat(t:Tab h g o T M S){i:Nat}(hi:i<T.rows):∃ w:QV,RQ g w (S i)/\h.cell? (aE (aE ⟨T.bS,0,none⟩ (i*4)) 0)=some (.bool w.s)/\h.cell? (aE (aE ⟨T.bS,0,none⟩ (i*4)) 1)=some (.slice w.A w.n w.c)/\h.cell? (aE (aE ⟨T.bS,0,none⟩ (i*4)) 2)=some (.bool w.s2)/\h.cell? (aE (aE ⟨T.bS,0,none⟩ (i*4)) 3)=some (.slice w.A2 w.n2 w.c2):=by
 obtain ⟨d,r,m,f⟩:=t.scales
 obtain ⟨w,e,l⟩:=f i hi
 have a:d[i]=w:=by
  rw [aI (by omega)] at e
  cases e;rfl
 have cell:∀ k v,(enc w)[k]? = some v->h.cell? (aE (aE ⟨T.bS,0,none⟩ (i*4)) k)=some v:=by
  intro k v b
  refine t.sep.cell ?_
  rw [E6,E6,aM]
  exact r.cell (i:=i) (by omega) (j:=k) (by rw [a];exact b)
 exact ⟨w,l,cell 0 _ rfl,cell 1 _ rfl,cell 2 _ rfl,cell 3 _ rfl⟩
def Tab.store(t:Tab h g o T M S){i j:Nat}(hi:i<T.rows)(hj:j<T.cols){w:IV}{z:Int}(hz:ZIr g w z){K:Unit->aG->Prop}
 (x:∀ h' o',Tab h' g o' T (C5x M i j z) S->(∀ k,k≠T.bE->o' k=o k)->K () h'):wpH prog (aU Fk (.pointer (some (aE ⟨T.bE,i*T.cols*2,none⟩ (j*2)))) w.v) K h:=by
 obtain ⟨L,r,s,J⟩:=t.elems
 have F:=Bg hi hj
 have A:i*T.cols*2+j*2=(i*T.cols+j)*2:=by rw [aK]
 rw [E6,A]
 refine Sep.store (E:=inferInstanceAs (Enc IV)) A05 (v:=w.v) (y:=w) rfl t.sep r (i:=i*T.cols+j) (by omega) rfl ?_
 intro h' o' N f p H
 refine x h' o' ⟨p,t.n1,t.n2,t.n3,?_,⟨_,H,by simpa using s,fun a b c m=>?_⟩,?_,t.cE,t.cS,t.small,t.pos⟩ (fun k n=>by rw [f,B8 _ _ n])
 ·obtain ⟨e,G⟩:=t.head
  exact ⟨e,by rw [f,B8 _ _ t.n1];exact G⟩
 ·unfold C5x
  by_cases e:a=i/\b=j
  ·obtain ⟨rfl,rfl⟩:=e
   exact ⟨w,by rw [bV (by omega)],by rw [iP ⟨rfl,rfl⟩];exact hz⟩
  ·obtain ⟨u,C,B⟩:=J a b c m
   refine ⟨u,?_,by rw [iN e];exact B⟩
   rw [bK (fun x=>e (by have:=C19 hj m x;exact ⟨this.1.symm,this.2.symm⟩))]
   exact C
 ·obtain ⟨q,D,d,l⟩:=t.scales
  exact ⟨q,by rw [f];exact D.other t.n3.symm _,d,l⟩
def Tab.sstore(t:Tab h g o T M S){i:Nat}(hi:i<T.rows){w:QV}{q:Rat}(hz:RQ g w q){K:Unit->aG->Prop}
 (x:∀ h' o',Tab h' g o' T M (fun a=>if a=i then q else S a)->(∀ k,k≠T.bS->o' k=o k)->K () h'):wpH prog (aU K4 (.pointer (some (aE ⟨T.bS,0,none⟩ (i*4)))) w.v) K h:=by
 obtain ⟨z,r,u,m⟩:=t.scales
 rw [E6,aM]
 refine Sep.store (E:=inferInstanceAs (Enc QV)) Ti (v:=w.v) (y:=w) rfl t.sep r (i:=i) (by omega) rfl ?_
 intro h' o' A d p l
 refine x h' o' ⟨p,t.n1,t.n2,t.n3,?_,?_,⟨_,l,by simpa using u,Row.upd m (by omega) hz⟩,t.cE,t.cS,t.small,t.pos⟩ (fun k j=>by rw [d,B8 _ _ j])
 ·obtain ⟨e,f⟩:=t.head
  exact ⟨e,by rw [d,B8 _ _ t.n2];exact f⟩
 ·obtain ⟨s,n,b,c⟩:=t.elems
  exact ⟨s,by rw [d];exact n.other t.n3 _,b,c⟩
def S4{n:Nat}(h:n<=9223372036854775807):B4 (n:Int)=(n:Int):=B7 (by omega) (by omega)
def Fv(t:Tab h g o T M S){i:Nat}(hi:i<T.rows)(hK:K (.slice (some ⟨T.bE,i*T.cols*2,none⟩) T.cols (T.cE-i*T.cols)) h):aW prog Oq #[.pointer (some ⟨T.bt,0,none⟩),I (i:Int)] h K:=by
 refine C2q _ _ ?_
 unfold C74
 have a:=t.small
 have f:=t.pos
 have l:(i+1)*T.cols<=T.rows*T.cols:=aD _ hi
 have k:T.rows*T.cols<=10000*10000:=aZ a.1 a.2
 have j:=t.cE
 have c:(i+1)*T.cols=i*T.cols+T.cols:=by rw [aK,aL]
 have b:B4 ((i:Int)*(T.cols:Int))=((i*T.cols:Nat):Int):=by rw [<- aT];exact S4 (by omega)
 have e:B4 ((i:Int)+1)=((i+1:Nat):Int):=B7 (by omega) (by omega)
 have d:B4 (B4 ((i:Int)+1)*(T.cols:Int))=(((i+1)*T.cols:Nat):Int):=by rw [e,<- aT];exact S4 (by omega)
 refine ⟨_,rfl,_,_,_,t.c1,_,rfl,_,t.c0,_,rfl,_,t.c0,?_⟩
 rw [b,d]
 refine ⟨⟨by omega,by omega⟩,⟨by omega,by simp only [aH];omega⟩,?_⟩
 simp only [aH]
 rw [A4f (by omega),E6,aM,c,cW]
 exact hK
def A46(t:Tab h g o T M S){start col:Nat}(hs:start<=T.rows)(hc:col<T.cols)
 (hK1:fnd (fun i=>decide (M i col≠0)) (T.rows-start) start<T.rows->K (.tuple #[I ((fnd (fun i=>decide (M i col≠0)) (T.rows-start) start:Nat):Int),.bool true]) h)
 (hK0:fnd (fun i=>decide (M i col≠0)) (T.rows-start) start=T.rows->K (.tuple #[I 0,.bool false]) h):aW prog A1i #[.pointer (some ⟨T.bt,0,none⟩),I (start:Int),I (col:Int)] h K:=by
 refine B8w _ _ _ ?_
 unfold C4s
 refine ⟨fun L l=>∃ k:Nat,k<=T.rows/\L=[I k]/\l=h/\start<=k/\∀ j,start<=j->j<k->decide (M j col≠0)=false,fun L _=>T.rows-(iAt L 0).toNat,⟨start,hs,rfl,rfl,aF _,fun j b f=>by omega⟩,?_⟩
 rintro i l ⟨k,x,s,rfl,c,d⟩
 obtain rfl:=sI1 s
 refine ⟨_,rfl,_,_,_,t.c2,B6 (fun u=>?_) (fun q=>?_)⟩
 ·have a:k<T.rows:=by omega
  refine Fv t a ⟨_,_,_,rfl,_,rfl,by omega,by omega,?_⟩
  obtain ⟨w,p,r,n⟩:=t.at a hc
  refine ⟨_,_,_,_,r,n,F9 (p.mono t.sep.le) ⟨_,rfl,O9 (B6 (fun e=>?_) (fun e=>?_))⟩⟩
  ·rw [show B4 ((k:Int)+1)=((k+1:Nat):Int) by have:=t.small;rw [B7]<;>omega]
   refine ⟨⟨k+1,by omega,rfl,rfl,by omega,fun j b f=>?_⟩,by simp only [Cd];omega⟩
   by_cases m:j=k
   ·subst m;simp [e]
   ·exact d j b (by omega)
  ·have:fnd (fun i=>decide (M i col≠0)) (T.rows-start) start=k:=B3j _ c (by omega) d (fun _=>by simpa using e)
   rw [this] at hK1
   exact hK1 a
 ·have:fnd (fun i=>decide (M i col≠0)) (T.rows-start) start=T.rows:=B3j _ hs (by omega) (fun j b f=>d j b (by omega)) (fun y=>by omega)
  exact hK0 this
def B26(t:Tab h g o T M S){i k:Nat}(hi:i<T.rows)(hk:k<T.rows)(hik:i≠k)
 (hK:∀ h' o',Tab h' g o' T (fun a=>M (xch i k a)) (fun a=>S (xch i k a))->(∀ b,b≠T.bE->b≠T.bS->o' b=o b)->K (.tuple #[]) h'):aW prog A6w #[.pointer (some ⟨T.bt,0,none⟩),I (i:Int),I (k:Int)] h K:=by
 refine B8v _ _ _ ?_
 unfold C4r
 refine Fv t hi ⟨_,_,_,rfl,Fv t hk ⟨_,_,_,rfl,?_⟩⟩
 refine ⟨fun L J=>∃ (c:Nat) (A:aG),c<=T.cols/\L=[I c]/\Tab J g A T (fun a b=>if b<c then M (xch i k a) b else M a b) S/\∀ b,b≠T.bE->A b=o b,fun L _=>T.cols-(iAt L 0).toNat,⟨0,o,by omega,rfl,t.congr (fun a b _ _=>by rw [iN (by omega)]) (fun _ _=>rfl),fun _ _=>rfl⟩,?_⟩
 rintro z J ⟨c,A,hc,Q,d,n⟩
 obtain rfl:=sI1 Q
 refine B6 (fun W=>?_) (fun aa=>?_)
 ·have e:c<T.cols:=by omega
  obtain ⟨x,q,y,E⟩:=d.at hk e
  obtain ⟨u,p,s,D⟩:=d.at hi e
  rw [iN (aS c)] at q p
  refine ⟨_,rfl,by omega,by omega,_,_,_,_,y,E,_,rfl,by omega,by omega,_,_,_,_,s,D,_,rfl,by omega,by omega,?_⟩
  refine d.store hi e (w:=x) q ?_
  intro O V r f
  refine ⟨_,rfl,by omega,by omega,?_⟩
  refine r.store hk e (w:=u) p ?_
  intro H F G j
  rw [show B4 ((c:Int)+1)=((c+1:Nat):Int) by have:=t.small;rw [B7]<;>omega]
  refine ⟨⟨c+1,F,by omega,rfl,G.congr (fun a b _ _=>?_) (fun _ _=>rfl),fun b m=>by rw [j b m,f b m,n b m]⟩,by simp only [Cd];omega⟩
  show (if a=k/\b=c then M i c else if a=i/\b=c then M k c else if b<c then M (xch i k a) b else M a b)=if b<c+1 then M (xch i k a) b else M a b
  unfold xch
  grind
 ·have C:c=T.cols:=by omega
  subst C
  obtain ⟨x,q,y,E,X,Z⟩:=d.sat hk
  obtain ⟨u,p,s,D,R,N⟩:=d.sat hi
  refine ⟨_,rfl,_,_,_,d.c2,_,rfl,_,_,_,d.c2,_,rfl,_,_,_,d.c2,_,rfl,by omega,by omega,_,_,_,_,_,_,_,_,y,E,X,Z,_,rfl,_,_,_,d.c2,_,rfl,by omega,by omega,_,_,_,_,_,_,_,_,s,D,R,N,_,rfl,by omega,by omega,?_⟩
  refine d.sstore hi (w:=x) q ?_
  intro O V r f
  refine ⟨_,rfl,by omega,by omega,?_⟩
  refine r.sstore hk (w:=u) p ?_
  intro H F G j
  refine hK H F (G.congr (fun a b _ m=>by rw [iP m]) (fun a _=>?_)) (fun b B l=>by rw [j b l,f b l,n b B])
  show (if a=k then S i else if a=i then S k else S a)=S (xch i k a)
  unfold xch
  grind
end
def A71{P:cV}{t:bW}{v:bY}{K:VP}{h:aG}(x:∀ b,h b=none->K (.pointer (some ⟨b,0,none⟩)) (h.put b (.cells v.cells t))):wpH P (Instr.box t v) K h:=by
 unfold Instr.box newVar
 simp only [C5,R4,G2]
 exact x
def B2t{m k:Nat}(hm:1<=m)(hk:k<4611686018427387904):(k:Int)*2^(2*m)<b64^m:=by
 have e:b64^m=(2:Int)^(2*m)*2^(62*m):=by
  have:b64=(2:Int)^64:=by decide
  rw [this,<- Int.pow_mul,<- Int.pow_add]
  congr 1;omega
 have c:(2:Int)^62<=2^(62*m):=C8 (by decide) (by omega)
 have a:(k:Int)<2^62:=by
  have:(2:Int)^62=4611686018427387904:=by decide
  rw [this];omega
 have b:(0:Int)<2^(2*m):=Int.pow_pos (by decide)
 rw [e,Int.mul_comm]
 exact Int.mul_lt_mul_of_pos_left (Int.lt_of_lt_of_le a c) b
def A6b{m:Nat}{x y:Int}(hx:ZB m x)(hy:ZB m y):((x*y).natAbs:Int)<=2^(2*m):=by
 have:=hx.mul hy
 unfold ZB at this
 have e:m+m=2*m:=by omega
 rw [e] at this
 have:((x*y).natAbs:Int)<((2^(2*m):Nat):Int):=by omega
 rw [Int.natCast_pow] at this
 exact Int.le_of_lt this
section
variable {h g o:aG} {T:Tb} {M:Nat->Nat->Int} {S:Nat->Rat} {K:VP} {m:Nat}
def A82:(prog.info? Ks).map (·.zero)=some (some (.agg #[.slice none 0 0,.slice none 0 0])):=by kernel_rfl
def B0j(t:Tab h g o T M S){i p c:Nat}{wb:IV}{d:Int}(hi:i<T.rows)(hp':p<T.rows)(hip:i≠p)(hc:c<T.cols)(ib:ZIr g wb d)(hd:d≠0)(hm1:1<=m)(hm:2*m+1<=100000000)(hMi:∀ b,b<T.cols->ZB m (M i b))(hMp:∀ b,b<T.cols->ZB m (M p b))(hdb:ZB m d)
 (hK:∀ h' g' o',g.le g'->Tab h' g' o' T (fun a b=>if a=i then (M p c*M i b-M i c*M p b).tdiv d else M a b) S->(∀ b,b≠T.bE->o' b=o b)->K (.tuple #[]) h'):aW prog A1j #[.pointer (some ⟨T.bt,0,none⟩),I (i:Int),I (p:Int),I (c:Int),wb.v] h K:=by
 refine B6a _ _ _ _ _ _ _ _ ?_
 unfold C0h
 refine Fv t hi ⟨_,_,_,rfl,Fv t hp' ⟨_,_,_,rfl,?_⟩⟩
 obtain ⟨wf,zf,f0,f1⟩:=t.at hi hc
 refine ⟨_,rfl,by omega,by omega,_,_,_,_,f0,f1,?_⟩
 refine ⟨fun L W=>∃ (k:Nat) (j r:aG),k<=T.cols/\L=[I k]/\g.le j/\Tab W j r T (fun a b=>if a=i/\b<k then (M p c*M i b-M i c*M p b).tdiv d else M a b) S/\∀ b,b≠T.bE->r b=o b,fun L _=>T.cols-(iAt L 0).toNat,⟨0,g,o,by omega,rfl,B3 _,t.congr (fun a b _ _=>by rw [iN (by omega)]) (fun _ _=>rfl),fun _ _=>rfl⟩,?_⟩
 rintro z hq ⟨k,j,r,hk,eL,H,l,D⟩
 obtain rfl:=sI1 eL
 have ew:B4 ((k:Int)+1)=((k+1:Nat):Int):=by have:=t.small;rw [B7]<;>omega
 refine B6 (fun ad=>?_) (fun ae=>?_)
 ·have f:k<T.cols:=by omega
  obtain ⟨w1,V,d0,d1⟩:=l.at hi f
  rw [iN (by omega)] at V
  have same:(M p c*M i k-M i c*M p k).tdiv d=M i k->(∃ (k':Nat) (j r:aG),k'<=T.cols/\[I (B4 ((k:Int)+1))]=[I k']/\g.le j/\Tab hq j r T (fun a b=>if a=i/\b<k' then (M p c*M i b-M i c*M p b).tdiv d else M a b) S/\∀ b,b≠T.bE->r b=o b)/\T.cols-(iAt [I (B4 ((k:Int)+1))] 0).toNat<T.cols-(iAt [I (k:Int)] 0).toNat:=by
   intro e
   rw [ew]
   refine ⟨⟨k+1,j,r,by omega,rfl,H,l.congr (fun a b _ _=>?_) (fun _ _=>rfl),D⟩,by simp only [Cd];omega⟩
   by_cases q:a=i/\b<k
   ·rw [iP q,iP ⟨q.1,by omega⟩]
   ·rw [iN q]
    by_cases h2:a=i/\b<k+1
    ·obtain ⟨rfl,h3⟩:=h2
     have:b=k:=by omega
     subst this
     rw [iP ⟨rfl,by omega⟩,e]
    ·rw [iN h2]
  refine ⟨_,rfl,by omega,by omega,_,_,_,_,d0,d1,fun L W=>W=hq,?_,?_⟩
  ·refine F9 (V.mono l.sep.le) ⟨_,rfl,B6 (fun e1=>?_) (fun _=>rfl)⟩
   refine F9 (zf.mono (Heap.le_trans H l.sep.le)) ⟨_,rfl,B6 (fun e2=>same (by rw [e1,e2];simp)) (fun _=>?_)⟩
   obtain ⟨w2,J,c0,c1⟩:=l.at hp' f
   rw [iN (by omega)] at J
   refine ⟨_,rfl,by omega,by omega,_,_,_,_,c0,c1,F9 (J.mono l.sep.le) ⟨_,rfl,B6 (fun e3=>same (by rw [e1,e3];simp)) (fun _=>rfl)⟩⟩
  ·rintro W rfl
   refine Dn A82 ?_
   intro bs G
   have ac:j bs=none:=by
    cases hx:j bs with
    | none=>rfl
    | some y=>rw [l.sep.le _ _ hx] at G;cases G
   have s2:=l.sep.vis G (.cells #[.slice none 0 0,.slice none 0 0] Ks)
   have Z0:SumS (j.put bs (.cells #[.slice none 0 0,.slice none 0 0] Ks)) j bs Ks 200000001 0 0:=SumS.zero ac
   obtain ⟨w3,z3,a0,a1⟩:=l.ato hp' hc
   obtain ⟨w2,J,c0,c1⟩:=l.ato hp' f
   rw [iN (by omega)] at J z3
   have R:∀ {gg:aG} {w:IV} {x:Int},ZIr gg w x->ZB m x->w.n<=100000000:=fun i b=>ZI.len i b (by omega)
   have A:=hMp c hc
   have u:=hMi k f
   have C:=hMi c hc
   have F:=hMp k f
   have q1:=A6b A u
   have q2:=A6b C F
   have q0:=B2t (m:=m) (k:=2) hm1 (by omega)
   have l3:=R z3 A
   have l1:=R V u
   have lf:=R zf C
   have l2:=R J F
   refine ⟨_,rfl,_,rfl,by omega,by omega,_,_,_,_,s2.cell a0,s2.cell a1,?_⟩
   refine s2.call (As Z0 z3 V (by omega) (by omega) (N1:=m) (by omega) (by omega) ?_)
   intro G3 g3 s Z3 H3 s3
   refine ⟨rfl,_,rfl,by omega,by omega,_,_,_,_,s3.cell c0,s3.cell c1,?_⟩
   refine s3.call (Sp Z3 (zf.mono (Heap.le_trans H s)) (J.mono s) (by omega) (by omega) (N1:=m) (by omega) (by omega) ?_)
   intro G4 g4 X Z4 H4 s4
   refine ⟨rfl,s4.call (Nd Z4 (by omega) ?_)⟩
   intro sv Av nv cv G5 N z5 H5 s5
   rw [Int.zero_add] at z5
   refine ⟨_,_,_,_,rfl,s4.le_le s5 N,?_⟩
   have E:j.le G5:=Heap.le_trans s (Heap.le_trans X (Heap.le_trans Z4.le N))
   have bz:ZB (2*m+1) (M p c*M i k-M i c*M p k):=((A.mul u).sub (C.mul F)).mono (by omega)
   refine s5.call (Q3 z5 (ib.mono (Heap.le_trans H E)) bz (hdb.mono (by omega)) (by omega) hd ?_)
   intro s6 A6 n6 c6 G6 B z6 H6 O
   refine ⟨_,_,_,_,rfl,s5.le_le O B,_,rfl,by omega,by omega,?_⟩
   have t6:=l.next O (Heap.le_trans E B)
   refine t6.store hi f (w:=⟨s6,A6,n6,c6⟩) z6 ?_
   intro H7 o7 t7 Z
   rw [ew]
   refine ⟨⟨k+1,G6,o7,by omega,rfl,Heap.le_trans H (Heap.le_trans E B),t7.congr (fun a b _ _=>?_) (fun _ _=>rfl),fun b Q=>by rw [Z b Q,D b Q]⟩,by simp only [Cd];omega⟩
   show (if a=i/\b=k then (M p c*M i k-M i c*M p k).tdiv d else if a=i/\b<k then (M p c*M i b-M i c*M p b).tdiv d else M a b)=_
   grind
 ·have aa:k=T.cols:=by omega
  subst aa
  exact hK hq j r H (l.congr (fun a b _ Q=>by
   by_cases q:a=i
   ·rw [iP ⟨q,Q⟩,iP q]
   ·rw [iN (fun x=>q x.1),iN q]) (fun _ _=>rfl)) D
def B73(n:Nat)(s:PS)(h:s.cs=[]):∀ c,(Co n s c).cs.length<=c:=by
 intro c
 induction c with
 | zero=>show s.cs.length<=0;rw [h];exact aF _
 | succ c ih=>
  show (Ia n c (Co n s c)).cs.length<=c+1
  unfold Ia
  split
  ·show ((Co n s c).cs++[c]).length<=c+1
   rw [aC]
   exact Nat.succ_le_succ ih
  ·omega
def A38(n:Nat)(s:PS)(h:s.last≠0)(hs:s.sgn=1\/s.sgn= -1)(hl:s.cs.length<=n):∀ c,(Co n s c).last≠0/\((Co n s c).sgn=1\/(Co n s c).sgn= -1)/\(Co n s c).cs.length<=n:=by
 intro c
 induction c with
 | zero=>exact ⟨h,hs,hl⟩
 | succ c ih=>
  obtain ⟨e,d,b⟩:=ih
  show (Ia n c (Co n s c)).last≠0/\((Ia n c (Co n s c)).sgn=1\/(Ia n c (Co n s c)).sgn= -1)/\(Ia n c (Co n s c)).cs.length<=n
  have f:=A65 n c (Co n s c) b
  unfold Ia
  by_cases a:Um n c (Co n s c)<n
  ·rw [iP a]
   have:=A0w (fun i=>decide ((Co n s c).M i c≠0)) (n-(Co n s c).cs.length) (Co n s c).cs.length (by unfold Um at a;omega)
   refine ⟨by simpa [Um] using this,?_,?_⟩
   ·show (if Um n c (Co n s c)=(Co n s c).cs.length then (Co n s c).sgn else -(Co n s c).sgn)=1\/(if Um n c (Co n s c)=(Co n s c).cs.length then (Co n s c).sgn else -(Co n s c).sgn)= -1
    split<;>omega
   ·show ((Co n s c).cs++[c]).length<=n
    rw [aC]
    simp only [List.length_cons,List.length_nil]
    omega
  ·rw [iN a];exact ⟨e,d,b⟩
def R2{α:Type}[E:Enc α]{P:cV}{t e ty:bW}{z:bY}{bytes:Nat}(st:SliceT P t e z E.default.size bytes){h g o:aG}{A:Option aJ}{c n:Nat}{xs:List α}(s:Sep h g o)(w:OwnSl o e A c xs)(hxn:n=xs.length){v:bY}{y:α}(hv:v.cells=(enc y).toArray)(hsz:E.default.size<=1000)
 (hb:(2*(xs.length+1)+192)*bytes<=281474976710656) (hn:xs.length+1<=9223372036854775807) {K:Option aJ->Nat->Nat->aG->Prop}
 (x:∀ A' c' h' g' o',g.le g'->Sep h' g' o'->OwnSl o' e A' c' (xs++[y])->(∀ k u,o k=some u->A≠some ⟨k,0,none⟩->o' k=some u/\A'≠some ⟨k,0,none⟩)->K A' (xs.length+1) c' h'):
 wpH P (cH t 1 #[(0,v)]) (fun v' hp=>∃ (B:Option aJ) (m d:Nat),v'= .slice B m d/\wpH P (bI #[t,t] ty #[.slice A n c,.slice B m d]) (fun v1 hp1=>∃ (A':Option aJ) (n' c':Nat),v1= .slice A' n' c'/\K A' n' c' hp1) hp) h:=by
 subst hxn
 refine Jl _ (OwnSl.push (ty:=ty) st s w hv hsz hb hn (K1:=fun _=>True) (K:=K) (fun _ _=>trivial) x) ?_
 rintro v' hp ⟨B,m,d,e,_,a⟩
 exact ⟨B,m,d,e,a⟩
def Tab.own(t:Tab h g o T M S):(∃ x,o T.bt=some x)/\(∃ x,o T.bE=some x)/\∃ x,o T.bS=some x:=by
 obtain ⟨e,a⟩:=t.head
 obtain ⟨j,⟨f,k,c⟩,_⟩:=t.elems
 obtain ⟨i,⟨l,d,b⟩,_⟩:=t.scales
 exact ⟨⟨_,a⟩,⟨_,c⟩,⟨_,b⟩⟩
def Tab.keep(t:Tab h g o T M S){h' g' o':aG}(s:Sep h' g' o')(l:g.le g')(hk:∀ k x,o k=some x->k=T.bt\/k=T.bE\/k=T.bS->o' k=some x):Tab h' g' o' T M S:=by
 refine ⟨s,t.n1,t.n2,t.n3,?_,?_,?_,t.cE,t.cS,t.small,t.pos⟩
 ·obtain ⟨e,m⟩:=t.head
  exact ⟨e,hk _ _ m (.inl rfl)⟩
 ·obtain ⟨p,⟨e,ex,a⟩,c,b⟩:=t.elems
  refine ⟨p,⟨e,ex,hk _ _ a (.inr (.inl rfl))⟩,c,fun i j d f=>?_⟩
  obtain ⟨w,e,q⟩:=b i j d f
  exact ⟨w,e,Kh _ _ _ _ l q⟩
 ·obtain ⟨n,⟨e,ex,a⟩,c,b⟩:=t.scales
  exact ⟨n,⟨e,ex,hk _ _ a (.inr (.inr rfl))⟩,c,b.mono K7 l⟩
abbrev zs(l:List Nat):List Int:=l.map fun (n:Nat)=>(n:Int)
def C2s(T:Tb)(A:Option aJ):Prop:=A≠some ⟨T.bt,0,none⟩/\A≠some ⟨T.bE,0,none⟩/\A≠some ⟨T.bS,0,none⟩
def A3g(t:Tab h g o T M S){c l nq:Nat}(hc:c<=T.cols)(hm1:1<=m)(hnq:∀ k,k<=c->(Co T.rows ⟨M,S,[],1,1⟩ k).cs.length<=nq)(hm:2*(3^nq*m)+1<=100000000)(hz:ZbP T.rows T.cols m l ⟨M,S,[],1,1⟩)
 (hK:∀ h' g' o' A cap w,g.le g'->Tab h' g' o' T (Co T.rows ⟨M,S,[],1,1⟩ c).M (Co T.rows ⟨M,S,[],1,1⟩ c).S->OwnSl o' I4 A cap (zs (Co T.rows ⟨M,S,[],1,1⟩ c).cs)->C2s T A->(∀ k x,o k=some x->k≠T.bE->k≠T.bS->o' k=some x/\A≠some ⟨k,0,none⟩)->ZIr g' w (Co T.rows ⟨M,S,[],1,1⟩ c).last->
  K (.tuple #[.slice A (Co T.rows ⟨M,S,[],1,1⟩ c).cs.length cap,w.v,I (Co T.rows ⟨M,S,[],1,1⟩ c).sgn]) h'):aW prog Ot #[.pointer (some ⟨T.bt,0,none⟩),I (c:Int)] h K:=by
 refine B1a _ _ ?_
 unfold B66
 have a4:=t.small
 refine t.sep.call (Ec (by omega) (by omega) ?_)
 intro s1 A1 n1 c1 g1 l1 i1 h1 aj
 have t1:=t.next aj l1
 refine ⟨_,_,_,_,rfl,fun L hp=>∃ (k:Nat) (g' o':aG) (A:Option aJ) (cap:Nat) (w:IV),k<=c/\L=[.slice A (Co T.rows ⟨M,S,[],1,1⟩ k).cs.length cap,I (Co T.rows ⟨M,S,[],1,1⟩ k).sgn,I k,.bool w.s,.slice w.A w.n w.c]/\g.le g'/\Tab hp g' o' T (Co T.rows ⟨M,S,[],1,1⟩ k).M (Co T.rows ⟨M,S,[],1,1⟩ k).S/\OwnSl o' I4 A cap (zs (Co T.rows ⟨M,S,[],1,1⟩ k).cs)/\C2s T A/\(∀ k x,o k=some x->k≠T.bE->k≠T.bS->o' k=some x/\A≠some ⟨k,0,none⟩)/\ZIr g' w (Co T.rows ⟨M,S,[],1,1⟩ k).last,
  fun L _=>c-(iAt L 2).toNat,⟨0,g1,o,none,0,⟨s1,A1,n1,c1⟩,by omega,rfl,l1,t1,(OwnSl.nil:OwnSl o I4 none 0 ([]:List Int)),⟨by simp,by simp,by simp⟩,fun k x e _ _=>⟨e,by simp⟩,i1⟩,?_⟩
 rintro pA pn pc a0 z ls lA ln lc hp ⟨k,g2,o2,A,cap,w,hk,eL,lg,t2,ow,E,ko,iw⟩
 simp only [bH,cQ,cF,bJ,true_and,and_true] at eL
 obtain ⟨⟨rfl,rfl,rfl⟩,rfl,rfl,rfl,rfl,rfl,rfl⟩:=eL
 have X:=A38 T.rows ⟨M,S,[],1,1⟩ (show (1:Int)≠0 by decide) (.inl rfl) (bN _) k
 have az:=B73 T.rows ⟨M,S,[],1,1⟩ rfl k
 have Q:=hz.run hm1 k (by omega)
 refine B6 (fun a6=>?_) (fun a5=>?_)
 ·have a8:k<c:=by omega
  have R:k<T.cols:=by omega
  have ew:B4 ((k:Int)+1)=((k+1:Nat):Int):=by rw [B7]<;>omega
  have F:Co T.rows ⟨M,S,[],1,1⟩ (k+1)=Ia T.rows k (Co T.rows ⟨M,S,[],1,1⟩ k):=rfl
  have a3:3^(Co T.rows ⟨M,S,[],1,1⟩ k).cs.length*m<=3^nq*m:=aD _ (cO (by decide) (hnq k (by omega)))
  have ae:=A0l (Co T.rows ⟨M,S,[],1,1⟩ k).cs.length m hm1
  generalize hst0:Co T.rows ⟨M,S,[],1,1⟩ k=st at *
  have G:fnd (fun i=>decide (st.M i k≠0)) (T.rows-st.cs.length) st.cs.length=Um T.rows k st:=rfl
  have a7:=A65 T.rows k st X.2.2
  refine A46 t2 X.2.2 R (fun O=>?_) (fun O=>?_)
  ·rw [G] at O ⊢
   have d:Ia T.rows k st={ M:=clr (fun i=>st.M (xch st.cs.length (Um T.rows k st) i)) st.cs.length k st.last,S:=fun i=>st.S (xch st.cs.length (Um T.rows k st) i),cs:=st.cs++[k],last:=st.M (Um T.rows k st) k,sgn:=if Um T.rows k st=st.cs.length then st.sgn else-st.sgn }:=by unfold Ia;rw [iP O]
   generalize hr:Um T.rows k st=r at *
   have B:st.cs.length<T.rows:=by omega
   refine ⟨_,_,rfl,fun L hq=>∃ (g3 Z:aG),L=[I (if r=st.cs.length then st.sgn else-st.sgn)]/\g2.le g3/\Tab hq g3 Z T (fun i=>st.M (xch st.cs.length r i)) (fun i=>st.S (xch st.cs.length r i))/\∀ b,b≠T.bE->b≠T.bS->Z b=o2 b,?_,?_⟩
   ·refine I3 (fun al=>?_) (fun au=>?_)
    ·have f:r≠st.cs.length:=by omega
     refine B26 t2 B O (fun e=>f e.symm) ?_
     intro h3 Z t3 W
     refine ⟨rfl,g2,Z,?_,B3 _,t3,W⟩
     rw [iN f]
     have:B4 (0-st.sgn)= - st.sgn:=by rw [B7]<;>omega
     rw [this]
    ·have q:r=st.cs.length:=by omega
     refine ⟨g2,o2,by rw [iP q],B3 _,t2.congr (fun i j _ _=>?_) (fun i _=>?_),fun _ _ _=>rfl⟩
     ·rw [q];unfold xch;grind
     ·rw [q];unfold xch;grind
   ·rintro ao h4 ⟨g3,Z,am,l3,t3,W⟩
    obtain rfl:ao=if r=st.cs.length then st.sgn else-st.sgn:=by simpa using am
    refine ⟨_,rfl,_,_,_,t3.c2,?_⟩
    have xk:xch st.cs.length r st.cs.length=r:=Tg _ _
    have ay:∀ i,i<T.rows->xch st.cs.length r i<T.rows:=fun i hi=>Ro B O hi
    refine ⟨fun L hq=>∃ (i:Nat) (g4 J:aG),i<=T.rows/\L=[I i]/\g3.le g4/\Tab hq g4 J T (fun a b=>if a<i/\a≠st.cs.length then clr (fun i=>st.M (xch st.cs.length r i)) st.cs.length k st.last a b else st.M (xch st.cs.length r a) b) (fun i=>st.S (xch st.cs.length r i))/\∀ b,b≠T.bE->J b=Z b,fun L _=>T.rows-(iAt L 0).toNat,⟨0,g3,Z,by omega,rfl,B3 _,t3.congr (fun a b _ _=>by rw [iN (by omega)]) (fun _ _=>rfl),fun _ _=>rfl⟩,?_⟩
    rintro zi h5 ⟨i,g4,J,hi,ag,l4,t4,N⟩
    obtain rfl:=sI1 ag
    have aa:B4 ((i:Int)+1)=((i+1:Nat):Int):=by rw [B7]<;>omega
    refine B6 (fun a1=>?_) (fun a2=>?_)
    ·have ac:i<T.rows:=by omega
     refine I3 (fun al=>?_) (fun au=>?_)
     ·have f:i≠st.cs.length:=by omega
      refine B0j (m:=3^st.cs.length*m) t4 ac B f R (Kh _ _ _ _ (Heap.le_trans l3 l4) iw) X.1 ae (by omega) (fun b H=>?_) (fun b H=>?_) Q.last ?_
      ·rw [iN (by omega)];exact Q.M _ b (ay i ac) H
      ·rw [iN (by omega),xk];exact Q.M r b O H
      intro h6 g6 o6 l6 t6 ax
      refine ⟨rfl,?_⟩
      rw [aa]
      refine ⟨⟨i+1,g6,o6,by omega,rfl,Heap.le_trans l4 l6,t6.congr (fun a b _ _=>?_) (fun _ _=>rfl),fun b H=>by rw [ax b H,N b H]⟩,by simp only [Cd];omega⟩
      show (if a=i then ((if st.cs.length<i/\st.cs.length≠st.cs.length then _ else st.M (xch st.cs.length r st.cs.length) k)*(if i<i/\i≠st.cs.length then _ else st.M (xch st.cs.length r i) b)-(if i<i/\i≠st.cs.length then _ else st.M (xch st.cs.length r i) k)*(if st.cs.length<i/\st.cs.length≠st.cs.length then _ else st.M (xch st.cs.length r st.cs.length) b)).tdiv st.last else if a<i/\a≠st.cs.length then clr (fun i=>st.M (xch st.cs.length r i)) st.cs.length k st.last a b else st.M (xch st.cs.length r a) b)=if a<i+1/\a≠st.cs.length then clr (fun i=>st.M (xch st.cs.length r i)) st.cs.length k st.last a b else st.M (xch st.cs.length r a) b
      rw [iN (show ¬ (st.cs.length<i/\st.cs.length≠st.cs.length) by omega),iN (show ¬ (i<i/\i≠st.cs.length) by omega),iN (show ¬ (i<i/\i≠st.cs.length) by omega),iN (show ¬ (st.cs.length<i/\st.cs.length≠st.cs.length) by omega)]
      by_cases ea:a=i
      ·subst ea
       rw [iP rfl,iP ⟨by omega,f⟩]
       unfold clr
       rw [iN f]
      ·rw [iN ea]
       by_cases D:a<i/\a≠st.cs.length
       ·rw [iP D,iP ⟨by omega,D.2⟩]
       ·rw [iN D,iN (by omega)]
     ·have q:i=st.cs.length:=by omega
      rw [aa]
      refine ⟨⟨i+1,g4,J,by omega,rfl,l4,t4.congr (fun a b _ _=>?_) (fun _ _=>rfl),N⟩,by simp only [Cd];omega⟩
      by_cases D:a<i/\a≠st.cs.length
      ·rw [iP D,iP ⟨by omega,D.2⟩]
      ·rw [iN D,iN (by omega)]
    ·have av:i=T.rows:=by omega
     subst av
     have tF:Tab h5 g4 J T (clr (fun i=>st.M (xch st.cs.length r i)) st.cs.length k st.last) (fun i=>st.S (xch st.cs.length r i)):=t4.congr (fun a b ha _=>by
      by_cases D:a=st.cs.length
      ·rw [iN (by omega),D];unfold clr;rw [iP rfl]
      ·rw [iP ⟨ha,D⟩]) (fun _ _=>rfl)
     refine Fv tF B ⟨_,_,_,rfl,_,rfl,by omega,by omega,?_⟩
     obtain ⟨wl,zl,d0,d1⟩:=tF.at B R
     have af:ZIr g4 wl (st.M r k):=by
      have:clr (fun i=>st.M (xch st.cs.length r i)) st.cs.length k st.last st.cs.length k=st.M r k:=by unfold clr;rw [iP rfl];show st.M (xch st.cs.length r st.cs.length) k=_;rw [xk]
      rw [this] at zl;exact zl
     refine ⟨_,_,_,_,d0,d1,?_⟩
     have C:∀ b,b≠T.bE->b≠T.bS->J b=o2 b:=fun b h1 h2=>by rw [N b h1,W b h1 h2]
     have ah:OwnSl J I4 pA pc (zs st.cs):=ow.keep fun b x hA H=>by
      rw [C b (fun e=>E.2.1 (by rw [<- e];exact hA)) (fun e=>E.2.2 (by rw [<- e];exact hA))];exact H
     have u:(zs st.cs).length=st.cs.length:=by simp
     refine R2 (ty:=Fn) C32 tF.sep ah (by simp) (y:=((k:Nat):Int)) rfl (by decide) (by rw [u];omega) (by rw [u];omega) ?_
     intro A' c' h' g' o' V s' aw p
     obtain ⟨⟨x1,ar⟩,⟨x2,aq⟩,⟨x3,ak⟩⟩:=tF.own
     have t':=tF.keep s' V (fun kk x e an=>by
      rcases an with rfl|rfl|rfl
      ·exact (p _ _ e E.1).1
      ·exact (p _ _ e E.2.1).1
      ·exact (p _ _ e E.2.2).1)
     rw [u,ew]
     have ad:(st.cs++[k]).length=st.cs.length+1:=by simp
     refine ⟨⟨k+1,g',o',A',c',wl,by omega,?_,Heap.le_trans lg (Heap.le_trans l3 (Heap.le_trans l4 V)),?_⟩,?_⟩
     ·rw [F,d,ad]
     ·rw [F,d]
      refine ⟨t',by simpa [zs] using aw,⟨(p _ _ ar E.1).2,(p _ _ aq E.2.1).2,(p _ _ ak E.2.2).2⟩,fun kk x e h1 h2=>?_,Kh _ _ _ _ V af⟩
      obtain ⟨e2,ai⟩:=ko kk x e h1 h2
      exact p kk x (by rw [C kk h1 h2];exact e2) ai
     ·show c-((k+1:Nat):Int).toNat<c-((k:Nat):Int).toNat
      omega
  ·rw [G] at O
   have d:Ia T.rows k st=st:=by unfold Ia;rw [iN (by omega)]
   refine ⟨_,_,rfl,?_⟩
   rw [ew]
   refine ⟨⟨k+1,g2,o2,pA,pc,w,by omega,by rw [F,d],lg,?_⟩,?_⟩
   ·rw [F,d];exact ⟨t2,ow,E,ko,iw⟩
   ·show c-((k+1:Nat):Int).toNat<c-((k:Nat):Int).toNat
    omega
 ·have:k=c:=by omega
  subst this
  exact hK hp g2 o2 pA pc w lg t2 ow E ko iw
end
section
variable {h:aG} {K:VP} {A B:Option aJ} {n c n' c' m:Nat} {s s':Bool} {x y:Int}
def C0w:RQ h ⟨false,none,0,0,false,none,0,0⟩ 0:=⟨ZI.zero,ZI.zero⟩
def A88{z:Int}(i:ZI h s A n c z):RQ h ⟨s,A,n,c,false,none,0,0⟩ (z:Rat):=⟨by simpa using i,by simpa using ZI.zero⟩
def Bl(gl:Gtz h)(ix:ZI h s A n c x)(iy:ZI h s' B n' c' y)(hx:ZB m x)(hy:ZB m y)(hm:m<=6400000000)(hK:∀ w h',h.le h'->RQ h' w (bZ x y)->K w.v h'):aW prog X8 #[.agg #[.bool s,.slice A n c],.agg #[.bool s',.slice B n' c']] h K:=by
 refine A51 _ _ _ _ _ _ _ _ ?_
 unfold A52
 refine ⟨fun L Q=>Q=h/\((L=[.bool true]/\bZ x y=0)\/(L=[.bool false]/\y≠0)),?_,?_⟩
 ·refine F9 iy ⟨_,rfl,B6 (fun e=>⟨rfl,.inl ⟨rfl,by rw [e];exact Rat.divInt_zero x⟩⟩) (fun e=>F9 ix ⟨_,rfl,rfl,?_⟩)⟩
  by_cases o:x=0
  ·exact .inl ⟨by rw [decide_eq_true o],by rw [o];exact Rat.zero_divInt y⟩
  ·exact .inr ⟨by rw [decide_eq_false o],e⟩
 rintro t Q ⟨rfl,hL⟩
 refine Br.of (fun e=>?_) (fun e=>?_)
 ·rcases hL with ⟨_,J⟩|⟨k,_⟩
  ·rw [J] at hK
   exact hK _ _ (B3 _) C0w
  ·simp at k;rw [e] at k;cases k
 have ac:y≠0:=by
  rcases hL with ⟨k,_⟩|⟨_,J⟩
  ·simp at k;rw [e] at k;cases k
  ·exact J
 refine ⟨fun l C=>∃ s A n c s' B n' c' f d,l=[.bool s,.slice A n c,.bool s',.slice B n' c']/\Q.le C/\ZI C s A n c f/\ZI C s' B n' c' d/\0<d/\bZ f d=bZ x y/\ZB m f/\ZB m d,?_,?_⟩
 ·refine Eb iy ⟨_,rfl,B6 (fun e=>?_) (fun e=>?_)⟩
  ·have W:y<0:=by rwa [Int.sign_neg_iff] at e
   refine T8 ix ?_
   intro Z p
   refine ⟨_,_,_,_,rfl,B3 _,?_⟩
   refine T8 iy ?_
   intro V r
   exact ⟨_,_,_,_,rfl,B3 _,_,_,_,_,_,_,_,_,-x,-y,rfl,B3 _,p,r,by omega,Rat.neg_divInt_neg x y,hx.neg,hy.neg⟩
  ·have g:0<y:=by rw [Int.sign_neg_iff] at e;omega
   exact ⟨_,_,_,_,_,_,_,_,x,y,rfl,B3 _,ix,iy,g,rfl,hx,hy⟩
 rintro Z A1 n1 c1 V A2 n2 c2 aa ⟨G,A1',N,H,S,A2',F,R,f,d,hl,i,p,r,g,C,z,j⟩
 obtain ⟨rfl,⟨rfl,rfl,rfl⟩,rfl,rfl,rfl,rfl⟩:Z=G/\(A1=A1'/\n1=N/\c1=H)/\V=S/\A2=A2'/\n2=F/\c2=R:=by simpa using hl
 rw [<- C] at hK
 refine Q4 r ⟨_,rfl,B6 (fun X=>?_) (fun X=>?_)⟩
 ·rw [X,Kb] at hK
  exact hK _ _ i (A88 p)
 refine Cj (gl.mono i) p r z j hm ?_
 intro A3 n3 c3 h3 u O
 refine ⟨_,_,_,_,rfl,?_⟩
 generalize hqq:bZ f d=q at *
 have b:q.num=f/(dJ f d:Int):=by
  rw [<- hqq,Rat.num_divInt,Int.sign_eq_one_of_pos g,Int.one_mul,Int.gcd_comm]
 have a:(q.den:Int)=d/(dJ f d:Int):=by
  rw [<- hqq,Rat.den_divInt,iN (by omega),Int.gcd_comm,Int.natCast_ediv,Int.natAbs_of_nonneg (by omega)]
 have ad:0<dJ f d:=Int.gcd_pos_of_ne_zero_right f (by omega)
 have D:ZB m (dJ f d:Int):=ZB.gcd (by omega) j
 refine Q4 O ⟨_,rfl,O9 (B6 (fun o=>?_) (fun o=>?_))⟩
 ·rw [o] at b a
  simp at b a
  refine S8 (q:=q) (p.mono u) (r.mono u) b a ?_
  intro w T
  exact ⟨_,_,_,_,_,_,_,_,rfl,hK _ _ (Heap.le_trans i u) T⟩
 ·refine Q3 (p.mono u) O z D hm (by omega) ?_
  intro s4 A4 n4 c4 h4 E i4
  refine ⟨_,_,_,_,rfl,E,?_⟩
  refine Q3 ((r.mono u).mono E) (O.mono E) j D hm (by omega) ?_
  intro s5 A5 n5 c5 h5 M i5
  refine ⟨_,_,_,_,rfl,M,?_⟩
  refine S8 (q:=q) (i4.mono M) i5 (by rw [b,dP (Int.gcd_dvd_left f d)]) (by rw [a,dP (Int.gcd_dvd_right f d)]) ?_
  intro w T
  exact ⟨_,_,_,_,_,_,_,_,rfl,hK _ _ (Heap.le_trans i (Heap.le_trans u (Heap.le_trans E M))) T⟩
end
section
variable {α:Type} [E:Enc α]
def OwnSl.store{P:cV}{t e:bW}(one:P.cellsOf t=E.default.size/\(P.info? t).isSome=true){v:bY}{y:α}(hv:v.cells=(enc y).toArray){h g o:aG}{A:Option aJ}{c:Nat}{xs:List α}(s:Sep h g o)(w:OwnSl o e A c xs){i b:Nat}(hi:i<xs.length)(hA:A=some ⟨b,0,none⟩){K:Unit->aG->Prop}
 (x:∀ h' o',Sep h' g o'->OwnSl o' e A c (xs.set i y)->(∀ k,k≠b->o' k=o k)->K () h'):wpH P (aU t (.pointer (some (aE ⟨b,0,none⟩ (i*E.default.size)))) v) K h:=by
 rcases w.2 with ⟨F,_⟩|⟨D,j,d,l,r,B⟩
 ·exfalso;have:=w.1;omega
 ·rw [hA] at d
  simp only [aQ,aY,and_true] at d
  subst d
  obtain ⟨ex,hex⟩:∃ ex,j=xs.flatMap enc++ex:=⟨j.drop (xs.length*E.default.size),by rw [<- B,List.take_append_drop]⟩
  rw [hex] at l r
  obtain ⟨z,f⟩:=Option.isSome_iff_exists.1 one.2
  have C:z.size=E.default.size:=by simpa [Program.cellsOf,f] using one.1
  have q:=E.default.len y
  have m:(i+1)*E.default.size<=xs.length*E.default.size:=aD _ hi
  rw [aK,aL] at m
  have a:(h.without b).put b (.cells (xs.flatMap enc++ex).toArray e)=h:=O8 (s.own b _ l)
  unfold aU
  simp only [C5,Instr.sureAddr,G2,storeVar,N4 f,C,hv,List.size_toArray,q,ne_eq,not_true_eq_false,if_false]
  rw [E6,aM,<- a]
  refine J8 (enc y) (i*E.default.size) 0 _ (by rw [aC,K9,q];omega) (E.default.one y) ?_
  have p:N5 (xs.flatMap enc++ex) (i*E.default.size+0) (enc y)=(xs.set i y).flatMap enc++ex:=by
   rw [dE,<- A0x xs hi]
   unfold N5
   rw [dG (by rw [K9];omega),List.drop_append_of_le_length (by rw [K9,q];omega),dF,dF,dF]
  rw [p]
  have n:(h.without b).put b (.cells ((xs.set i y).flatMap enc++ex).toArray e)=h.put b (.cells ((xs.set i y).flatMap enc++ex).toArray e):=by
   rw [<- a,Sn,a]
  rw [n]
  refine x _ _ (s.upd l _) ⟨by simpa using w.1,.inr ⟨b,(xs.set i y).flatMap enc++ex,hA,B9 _ _ _,?_,?_⟩⟩ (fun k u=>B8 _ _ u)
  ·rw [aC,K9] at r ⊢
   simpa using r
  ·rw [dG (by rw [K9];omega),List.take_of_length_le (by rw [K9];omega)]
end
section
variable {h g:aG} {K:VP} {A:Option aJ} {n c cols:Nat}
def B61(h:aG)(v:bY)(A:Option aJ)(n c cols:Nat):Prop:=∃ f0 f1:aJ,v= .func (.func Im) #[] #[.pointer (some f0),.pointer (some f1)]/\h.cell? f0=some (.slice A n c)/\h.cell? f1=some (I (cols:Int))
def Yx(hc:1<=cols)(hK:∀ v h',h.le h'->B61 h' v A n c cols->K v h'):aW prog Ts #[.slice A n c,I (cols:Int)] h K:=by
 refine B5x _ _ _ _ ?_
 unfold C07
 refine A71 ?_
 intro b f
 refine ⟨_,rfl,A71 ?_⟩
 intro d a
 have c1:Heap.cell? ((h.put b (.cells (cJ (.slice A n c)) U3)).put d (.cells (cJ (I (cols:Int))) 3)) ⟨d,0,none⟩=some (I (cols:Int)):=by rw [E7];rfl
 refine ⟨_,rfl,_,c1,B6 (fun e=>by omega) (fun _=>hK _ _ (Heap.le_trans (Heap.le_put _ f) (Heap.le_put _ a)) ⟨⟨b,0,none⟩,⟨d,0,none⟩,rfl,?_,c1⟩)⟩
 refine B5 (Heap.le_put _ a) ?_
 rw [E7];rfl
def Uo{g0:aG}{v:bY}{rows:Nat}(ic:B61 g0 v A (rows*cols) c cols)(hc:1<=cols)(hn:rows*cols<=1000000000)(hcap:rows*cols<=c){B:List bY->aG->(aG->Prop)->Prop}{K:aG->Prop}(J:Nat->aG->Prop)(h0:J 0 h)(hle:∀ k h,J k h->g0.le h)
 (hB:∀ k h1,k<rows->J k h1->B [.slice (J9 A ((k+1)*cols) (k*cols) 4) cols cols] h1 (J (k+1))) (hK:∀ h1,J rows h1->K h1):A53 prog v h B K:=by
 obtain ⟨j,g,rfl,C,t⟩:=ic
 refine ⟨Im,#[],#[.pointer (some j),.pointer (some g)],rfl,A2b,?_⟩
 intro l rec E a
 have y:(#[] ++ #[.func (.yield l) #[] #[]] ++ #[.pointer (some j),.pointer (some g)]:Array bY)=#[.func (.yield l) #[] #[],.pointer (some j),.pointer (some g)]:=by simp
 rw [y]
 refine B18 l j g ?_
 unfold B5y
 refine ⟨fun L w=>∃ (k:Nat) (h1:aG),k<=rows/\L=[I ((k*cols:Nat):Int)]/\h1 l=none/\w=h1.put l (.loop rec)/\J k h1,fun L _=>rows*cols-(iAt L 0).toNat,⟨0,h,by omega,by simp,E,rfl,h0⟩,?_⟩
 rintro i w ⟨k,h1,N,z,b,rfl,q⟩
 obtain rfl:i=((k*cols:Nat):Int):=by simpa using z
 have s:=Heap.le_trans (hle k h1 q) (Heap.le_put (.loop rec) b)
 have p:=B5 s C
 have F:=B5 s t
 refine ⟨_,_,_,p,B6 (fun H=>?_) (fun M=>?_)⟩
 ·have e:k<rows:=by
   by_cases m:k<rows
   ·exact m
   ·exfalso
    have:rows*cols<=k*cols:=aD _ (by omega)
    omega
  have O:(k+1)*cols<=rows*cols:=aD _ e
  have Q:(k+1)*cols=k*cols+cols:=by rw [aK,aL]
  have D:(if ((rows*cols-(((k*cols:Nat):Int)).toNat:Nat):Int)<(cols:Int) then ((rows*cols-(((k*cols:Nat):Int)).toNat:Nat):Int) else (cols:Int))=(cols:Int):=by
   rw [iN (by simp only [aH];omega)]
  have u:B4 (((k*cols:Nat):Int)+(cols:Int))=(((k+1)*cols:Nat):Int):=by rw [B7]<;>omega
  refine ⟨_,F,_,_,_,p,⟨by omega,by omega⟩,_,_,_,p,?_⟩
  rw [D,u]
  simp only [aH]
  have G:(k+1)*cols-k*cols=cols:=by omega
  rw [G]
  refine ⟨⟨by omega,by omega⟩,⟨by omega,by omega⟩,⟨by omega,by omega⟩,?_⟩
  refine (a _ h1 (J (k+1)) b (hB k h1 e q)).mono ?_
  rintro r R ⟨rfl,x,f,rfl,d⟩
  refine ⟨_,rfl,?_⟩
  show ∃ (t11:Int),_
  have n:=Heap.le_trans (hle _ x d) (Heap.le_put (.loop rec) f)
  refine ⟨_,B5 n t,?_⟩
  rw [u]
  exact ⟨⟨k+1,x,by omega,rfl,f,rfl,d⟩,by simp only [Cd];omega⟩
 ·have o:k=rows:=by
   by_cases m:k=rows
   ·exact m
   ·exfalso
    have:(k+1)*cols<=rows*cols:=aD _ (by omega)
    rw [aK,aL] at this
    omega
  subst o
  exact ⟨h1,b,rfl,hK h1 q⟩
end
section
variable {α:Type} [E:Enc α]
def Wv{P:cV}{t e:bW}{z:bY}{bytes:Nat}(st:SliceT P t e z E.default.size bytes){h g o:aG}{A:Option aJ}{c:Nat}{xs:List α}(s:Sep h g o)(w:OwnSl o e A c xs){v:bY}{y:α}(hv:v.cells=(enc y).toArray)(hsz:E.default.size<=1000)
 (hb:(2*(xs.length+1)+192)*bytes<=281474976710656) (hn:xs.length+1<=9223372036854775807) {K:VP}
 (x0:∀ B m d hp,h.le hp->(∀ {ty:bW} {K2:VP},(∀ A' c' h' g' o',g.le g'->Sep h' g' o'->OwnSl o' e A' c' (xs++[y])->(∀ k u,o k=some u->A≠some ⟨k,0,none⟩->o' k=some u/\A'≠some ⟨k,0,none⟩)->K2 (.slice A' (xs.length+1) c') h')->wpH P (bI #[t,t] ty #[.slice A xs.length c,.slice B m d]) K2 hp)->K (.slice B m d) hp):
 wpH P (cH t 1 #[(0,v)]) K h:=by
 obtain ⟨gb,p,G⟩:=w.priv s
 refine Nv st (vs:=[v]) (fun u hu=>by rw [List.mem_singleton.1 hu,hv];simp [E.default.len]) rfl (by simp;omega) rfl ?_
 intro b i
 have S:[v].flatMap (fun v=>v.cells.toList)=[y].flatMap enc:=by simp [hv]
 rw [S]
 refine x0 _ _ _ _ (Heap.le_put _ i) (fun {ty K2} x=>?_)
 have p':PrivF (h.put b (.cells ([y].flatMap enc).toArray e)) (gb.put b (.cells ([y].flatMap enc).toArray e)) e A c xs:=Priv.put p i _
 refine Y3 st p' (ys:=[y]) rfl (Lu e h b [y]) hb hn ?_
 intro A' c' h' g' hg hp
 rw [aC]
 have H:∀ k u,h k=some u->A≠some ⟨k,0,none⟩->g' k=some u:=by
  intro k u a V
  have f:k≠b:=by rintro rfl;rw [i] at a;cases a
  exact hg k u (by rw [B8 _ _ f];exact G k u a V)
 have Q:∀ k u,g k=some u->A≠some ⟨k,0,none⟩:=by
  intro k u a r
  rcases w.2 with ⟨_,X⟩|⟨j,q,l,n,_⟩
  ·rw [r] at X;cases X
  ·rw [r] at l
   simp only [aQ,aY,and_true] at l
   subst l
   rw [s.dis k _ n] at a;cases a
 rcases hp.2.2 with ⟨aa,_⟩|⟨j,q,l,n,L,ha,ht⟩
 ·exfalso
  have:=hp.2.1
  rw [aC] at this
  simp at this
  omega
 ·subst l
  let o':aG:=fun k=>if k=j then some (.cells (cM q) e) else if A=some ⟨k,0,none⟩ then none else o k
  have W:o' j=some (.cells (cM q) e):=by show (if j=j then _ else _)=_;rw [iP rfl]
  have N:∀ k,k≠j->A≠some ⟨k,0,none⟩->o' k=o k:=fun k J D=>by show (if k=j then _ else if _ then _ else _)=_;rw [iN J,iN D]
  have T:∀ k,k≠j->A=some ⟨k,0,none⟩->o' k=none:=fun k J D=>by show (if k=j then _ else if _ then _ else _)=_;rw [iN J,iP D]
  let g2:aG:=fun k=>match o' k with|some _=>none|none=>h' k
  have gs:∀ k u,o' k=some u->g2 k=none:=fun k u a=>by show (match o' k with|some _=>none|none=>h' k)=_;rw [a]
  have Z:∀ k,o' k=none->g2 k=h' k:=fun k a=>by show (match o' k with|some _=>none|none=>h' k)=_;rw [a]
  have C:∀ k u,k≠j->g' k=some u->h' k=some u:=fun k u J a=>by rw [L,B8 _ _ J];exact a
  have M:∀ k u,o k=some u->A≠some ⟨k,0,none⟩->k≠j:=by
   rintro k u a D rfl
   have:=H k u (s.own k u a) D
   rw [n] at this;cases this
  refine x _ c' h' g2 o' (fun k u a=>?_) ⟨fun k u a=>?_,fun k a=>(Z k a).symm,gs⟩ ⟨hp.2.1,.inr ⟨j,q,rfl,W,ha,ht⟩⟩ (fun k u a D=>?_)
  ·have R:o k=none:=by
    cases ho:o k with
    | none=>rfl
    | some y=>rw [s.dis k y ho] at a;cases a
   have r:=Q k u a
   have O:=H k u (s.le k u a) r
   have F:k≠j:=by rintro rfl;rw [n] at O;cases O
   rw [Z k (by rw [N k F r];exact R)]
   exact C k u F O
  ·by_cases f:k=j
   ·subst f
    rw [W] at a;cases a
    rw [L,B9]
   ·by_cases r:A=some ⟨k,0,none⟩
    ·rw [T k f r] at a;cases a
    ·rw [N k f r] at a
     exact C k u f (H k u (s.own k u a) r)
  ·have f:=M k u a D
   refine ⟨by rw [N k f D];exact a,fun h3=>f ?_⟩
   simp only [aQ,aY,and_true] at h3
   exact h3.symm
end
def A21{P:cV}{t:bW}(one:P.cellsOf t=1/\(P.info? t).isSome=true){v:bY}(hv:A8f v=true)(hc:v.cells=#[v]){h g o:aG}(s:Sep h g o){b:Nat}{cs:Array bY}{e:bW}(hb:o b=some (.cells cs e)){i:Nat}(hi:i<cs.size){K:Unit->aG->Prop}
 (x:∀ h' o',Sep h' g o'->o'=o.put b (.cells (cs.setIfInBounds i v) e)->K () h'):wpH P (aU t (.pointer (some (aE ⟨b,0,none⟩ i))) v) K h:=by
 rw [E6,aM]
 have a:h.put b (.cells cs e)=h:=A2d (s.own b _ hb)
 rw [<- a]
 refine Ei one.1 one.2 hv hc hi ?_
 exact x _ _ (s.upd hb _) rfl
structure NT (o:aG) (bp bt cols:Nat) (es:List IV) (ss:List QV) (A:Option aJ) (c:Nat) (A':Option aJ) (c':Nat):Prop where
 hp:∃ e,o bp=some (.cells #[.pointer (some ⟨bt,0,none⟩)] e)
 ht:∃ e,o bt=some (.cells #[I (cols:Int),.slice A es.length c,.slice A' ss.length c'] e)
 oe:OwnSl o Fk A c es
 os:OwnSl o K4 A' c' ss
 ne:bp≠bt
 a1:A≠some ⟨bp,0,none⟩/\A≠some ⟨bt,0,none⟩
 a2:A'≠some ⟨bp,0,none⟩/\A'≠some ⟨bt,0,none⟩
 a3:∀ b,A=some ⟨b,0,none⟩->A'≠some ⟨b,0,none⟩
section
variable {h g o:aG} {bp bt cols:Nat} {es:List IV} {ss:List QV} {A A':Option aJ} {c c':Nat}
def NT.cp(n:NT o bp bt cols es ss A c A' c')(s:Sep h g o):h.cell? ⟨bp,0,none⟩=some (.pointer (some ⟨bt,0,none⟩)):=by
 obtain ⟨e,a⟩:=n.hp
 refine s.cell ?_
 unfold Heap.cell?;simp only [a];rfl
def NT.c1(n:NT o bp bt cols es ss A c A' c')(s:Sep h g o):h.cell? (aE ⟨bt,0,none⟩ 1)=some (.slice A es.length c):=by
 obtain ⟨e,a⟩:=n.ht
 refine s.cell ?_
 rw [E6];unfold Heap.cell?;simp only [a];rfl
def NT.c2(n:NT o bp bt cols es ss A c A' c')(s:Sep h g o):h.cell? (aE ⟨bt,0,none⟩ 2)=some (.slice A' ss.length c'):=by
 obtain ⟨e,a⟩:=n.ht
 refine s.cell ?_
 rw [E6];unfold Heap.cell?;simp only [a];rfl
def B6x:prog.cellsOf Rq=1/\(prog.info? Rq).isSome=true:=by constructor<;>kernel_rfl
def B6w:prog.cellsOf U3=1/\(prog.info? U3).isSome=true:=by constructor<;>kernel_rfl
def NT.buildE(n:NT o bp bt cols es ss A c A' c')(s:Sep h g o)(w:IV)(hl:es.length<=100000000){F:aG->Prop}(hF:∀ h' g' o' A2 c2,g.le g'->Sep h' g' o'->NT o' bp bt cols (es++[w]) ss A2 c2 A' c'->F h'){K:VP}
 (x:∀ B m d hp,h.le hp->hp.cell? ⟨bp,0,none⟩=some (.pointer (some ⟨bt,0,none⟩))->(∀ {K2:VP},(∀ A2 c2 h2,h2.cell? ⟨bp,0,none⟩=some (.pointer (some ⟨bt,0,none⟩))->wpH prog (aU Rq (.pointer (some (aE ⟨bt,0,none⟩ 1))) (.slice A2 (es.length+1) c2)) (fun _ h3=>F h3) h2->K2 (.slice A2 (es.length+1) c2) h2)->wpH prog (bI #[Rq,Rq] Rq #[.slice A es.length c,.slice B m d]) K2 hp)->K (.slice B m d) hp):
 wpH prog (cH Rq 1 #[(0,w.v)]) K h:=by
 refine Wv tZs s n.oe (y:=w) rfl (by decide) (by omega) (by omega) ?_
 intro B m d hp G j
 refine x B m d hp G (B5 G (n.cp s)) (fun {K2} p=>j ?_)
 intro A2 c2 h2 O E M D N keep
 obtain ⟨T,t⟩:=n.hp
 obtain ⟨Q,u⟩:=n.ht
 have z:=keep bp _ t n.a1.1
 have r:=keep bt _ u n.a1.2
 refine p A2 c2 h2 ?_ ?_
 ·refine D.cell ?_
  unfold Heap.cell?;simp only [z.1];rfl
 ·refine A21 B6x rfl rfl D r.1 (by simp) ?_
  intro h3 J V L
  have q:∀ k,k≠bt->J k=E k:=fun k p=>by rw [L,B8 _ _ p]
  refine hF h3 O J A2 c2 M V ⟨⟨T,by rw [q _ n.ne];exact z.1⟩,⟨Q,by rw [L,B9];simp⟩,N.keep fun b y f l=>by rw [q b (fun e=>r.2 (by rw [<- e];exact f))];exact l,?_,n.ne,⟨z.2,r.2⟩,n.a2,?_⟩
  ·refine (n.os.keep (o':=E) fun b y f l=>(keep b y l (fun e=>n.a3 b e f)).1).keep fun b y f l=>by rw [q b (fun e=>n.a2.2 (by rw [<- e];exact f))];exact l
  ·intro b f a
   rcases n.os.2 with ⟨_,R⟩|⟨H,S,i,C,_⟩
   ·rw [R] at a;cases a
   ·rw [i] at a
    simp only [aQ,aY,and_true] at a
    subst a
    exact (keep H _ C (fun e=>n.a3 H e i)).2 f
def NT.buildS(n:NT o bp bt cols es ss A c A' c')(s:Sep h g o)(w:QV)(hl:ss.length<=100000000){F:aG->Prop}(hF:∀ h' g' o' A2 c2,g.le g'->Sep h' g' o'->NT o' bp bt cols es (ss++[w]) A c A2 c2->F h'){K:VP}
 (x:∀ B m d hp,h.le hp->hp.cell? ⟨bp,0,none⟩=some (.pointer (some ⟨bt,0,none⟩))->(∀ {K2:VP},(∀ A2 c2 h2,h2.cell? ⟨bp,0,none⟩=some (.pointer (some ⟨bt,0,none⟩))->wpH prog (aU U3 (.pointer (some (aE ⟨bt,0,none⟩ 2))) (.slice A2 (ss.length+1) c2)) (fun _ h3=>F h3) h2->K2 (.slice A2 (ss.length+1) c2) h2)->wpH prog (bI #[U3,U3] U3 #[.slice A' ss.length c',.slice B m d]) K2 hp)->K (.slice B m d) hp):
 wpH prog (cH U3 1 #[(0,w.v)]) K h:=by
 refine Wv B25 s n.os (y:=w) rfl (by decide) (by omega) (by omega) ?_
 intro B m d hp D f
 refine x B m d hp D (B5 D (n.cp s)) (fun {K2} j=>f ?_)
 intro A2 c2 h2 N C L z M keep
 obtain ⟨S,q⟩:=n.hp
 obtain ⟨O,r⟩:=n.ht
 have t:=keep bp _ q n.a2.1
 have p:=keep bt _ r n.a2.2
 refine j A2 c2 h2 ?_ ?_
 ·refine z.cell ?_
  unfold Heap.cell?;simp only [t.1];rfl
 ·refine A21 B6w rfl rfl z p.1 (by simp) ?_
  intro h3 G T J
  have l:∀ k,k≠bt->G k=C k:=fun k j=>by rw [J,B8 _ _ j]
  refine hF h3 N G A2 c2 L T ⟨⟨S,by rw [l _ n.ne];exact t.1⟩,⟨O,by rw [J,B9];simp⟩,?_,M.keep fun b y a i=>by rw [l b (fun e=>p.2 (by rw [<- e];exact a))];exact i,n.ne,n.a1,⟨t.2,p.2⟩,?_⟩
  ·refine (n.oe.keep (o':=C) fun b y a i=>(keep b y i (fun e=>n.a3 b a e)).1).keep fun b y a i=>by rw [l b (fun e=>n.a1.2 (by rw [<- e];exact a))];exact i
  ·intro b a
   rcases n.oe.2 with ⟨_,Q⟩|⟨E,R,H,u,_⟩
   ·rw [Q] at a;cases a
   ·rw [H] at a
    simp only [aQ,aY,and_true] at a
    subst a
    exact (keep E _ u (fun e=>n.a3 E H e)).2
end
def A3a(E:Nat->Rat)(cols i:Nat):Nat->Rat:=fun j=>E (i*cols+j)
def B2o(E:Nat->Rat)(cols i j:Nat):Int:=scl (A3a E cols i j) (Bf (A3a E cols i) cols:Int)
def B6b(E:Nat->Rat)(cols i:Nat):Nat->Nat
 | 0=>0
 | j+1=>dJ (B6b E cols i j:Int) (B2o E cols i j)
def Yw(E:Nat->Rat)(cols i:Nat):Nat:=if B6b E cols i cols=0 then 1 else B6b E cols i cols
def A5y(E:Nat->Rat)(cols i j:Nat):Int:=(B2o E cols i j).tdiv (Yw E cols i:Int)
def B23(E:Nat->Rat)(cols i:Nat):Rat:=bZ (Bf (A3a E cols i) cols:Int) (Yw E cols i:Int)
def B7e(E:Nat->Rat)(cols i:Nat):∀ n j,j<n->(B6b E cols i n:Int)∣B2o E cols i j:=by
 intro n
 induction n with
 | zero=>intro j h;omega
 | succ n ih=>
  intro j a
  by_cases e:j=n
  ·subst e;exact Int.gcd_dvd_right _ _
  ·exact Int.dvd_trans (Int.gcd_dvd_left _ _) (ih j (by omega))
def Ua(E:Nat->Rat)(cols i:Nat):0<Yw E cols i:=by unfold Yw;split<;>omega
def B7q(E:Nat->Rat)(cols i:Nat){j:Nat}(hj:j<cols):(Yw E cols i:Int)∣B2o E cols i j:=by
 unfold Yw
 split
 ·exact Int.one_dvd _
 ·exact B7e E cols i cols j hj
def C0n(E:Nat->Rat)(cols i:Nat){j:Nat}(hj:j<cols):(A5y E cols i j:Rat)=B23 E cols i*E (i*cols+j):=by
 have f:=Ua E cols i
 have a:((Yw E cols i:Nat):Int)≠0:=by omega
 have c:((A5y E cols i j:Int):Rat)*((Yw E cols i:Nat):Int)=E (i*cols+j)*((Bf (A3a E cols i) cols:Nat):Int):=by
  rw [<- bC]
  unfold A5y
  rw [Int.tdiv_mul_cancel (B7q E cols i hj)]
  exact B2e (by
   have:=A0s (A3a E cols i) cols j hj
   exact Int.natCast_dvd_natCast.2 this)
 have e:=W8 a
 unfold B23
 rw [cK]
 have b:(((Bf (A3a E cols i) cols:Nat):Int):Rat)/(((Yw E cols i:Nat):Int):Rat)*E (i*cols+j)=E (i*cols+j)*(((Bf (A3a E cols i) cols:Nat):Int):Rat)/(((Yw E cols i:Nat):Int):Rat):=by
  rw [bM,bM];grind
 rw [b,<- c]
 generalize (((Yw E cols i:Nat):Int):Rat)=d at *
 rw [bM]
 grind
def B6o(E:Nat->Rat)(cols i:Nat):0<B23 E cols i:=by
 unfold B23
 rw [cK]
 have b:(0:Rat)<((Bf (A3a E cols i) cols:Nat):Int):=by
  have:=A0r (A3a E cols i) cols
  exact_mod_cast this
 have a:(0:Rat)<((Yw E cols i:Nat):Int):=by
  have:=Ua E cols i
  exact_mod_cast this
 rw [bM]
 exact Rat.mul_pos b (Rat.inv_pos.2 a)
def ZB.gcd2{k:Nat}{x y:Int}(hx:ZB k x)(hy:ZB k y):ZB k (dJ x y:Int):=by
 by_cases h:y=0
 ·subst h
  rw [Int.gcd_zero_right]
  unfold ZB at *
  simpa using hx
 ·exact ZB.gcd h hy
section
variable {E:Nat->Rat} {cols i m:Nat}
def A0h(h:∀ j,j<cols->Sz m (E (i*cols+j))){j:Nat}(hj:j<cols):ZB (1+cols*m+m) (B2o E cols i j):=by
 have:=B2d (h j hj) (Ld (f:=A3a E cols i) cols h)
 exact this.mono (by omega)
def B3i(h:∀ j,j<cols->Sz m (E (i*cols+j))):∀ j,j<=cols->ZB (1+cols*m+m) (B6b E cols i j:Int):=by
 intro j
 induction j with
 | zero=>intro _;exact ZB.zero
 | succ j ih=>intro a;exact (ih (by omega)).gcd2 (A0h h (by omega))
def A1s(h:∀ j,j<cols->Sz m (E (i*cols+j))):ZB (1+cols*m+m) (Yw E cols i:Int):=by
 unfold Yw
 split
 ·exact ZB.one (by omega)
 ·exact B3i h cols (aF _)
def C0m(h:∀ j,j<cols->Sz m (E (i*cols+j))){j:Nat}(hj:j<cols):ZB (1+cols*m+m) (A5y E cols i j):=(A0h h hj).tdiv
def B22(h:∀ j,j<cols->Sz m (E (i*cols+j))):Sz (1+cols*m+m) (B23 E cols i):=by
 have:=Ua E cols i
 exact Pk (by omega) ((Ld (f:=A3a E cols i) cols h).mono (by omega)) (A1s h)
end
structure EsOk (g:aG) (E:Nat->Rat) (cols k:Nat) (es:List IV) (V:Nat->Int) (j:Nat):Prop where
 len:es.length=k*cols+j
 rows:∀ a b,a<k->b<cols->∃ w,es[a*cols+b]? = some w/\ZIr g w (A5y E cols a b)
 last:∀ b,b<j->∃ w,es[k*cols+b]? = some w/\ZIr g w (V b)
def EsOk.mono{g g':aG}{E:Nat->Rat}{cols k j:Nat}{es:List IV}{V:Nat->Int}(e:EsOk g E cols k es V j)(l:g.le g'):EsOk g' E cols k es V j:=by
 refine ⟨e.len,fun a b c i=>?_,fun b c=>?_⟩
 ·obtain ⟨w,f,d⟩:=e.rows a b c i;exact ⟨w,f,Kh _ _ _ _ l d⟩
 ·obtain ⟨w,f,d⟩:=e.last b c;exact ⟨w,f,Kh _ _ _ _ l d⟩
def EsOk.push{g:aG}{E:Nat->Rat}{cols k j:Nat}{es:List IV}{V:Nat->Int}(e:EsOk g E cols k es V j){w:IV}(hw:ZIr g w (V j)):EsOk g E cols k (es++[w]) V (j+1):=by
 have m:=e.len
 refine ⟨by rw [aC,e.len];rfl,fun a b f i=>?_,fun b f=>?_⟩
 ·obtain ⟨u,d,c⟩:=e.rows a b f i
  have n:=Bg f i
  exact ⟨u,by rw [bF (by omega)];exact d,c⟩
 ·by_cases l:b=j
  ·subst l
   exact ⟨w,by rw [cD (by omega),m];simp,hw⟩
  ·obtain ⟨u,d,c⟩:=e.last b (by omega)
   exact ⟨u,by rw [bF (by omega)];exact d,c⟩
def EsOk.set{g:aG}{E:Nat->Rat}{cols k:Nat}{es:List IV}{V:Nat->Int}(e:EsOk g E cols k es V cols){b:Nat}(hb:b<cols){w:IV}{z:Int}(hw:ZIr g w z):EsOk g E cols k (es.set (k*cols+b) w) (fun x=>if x=b then z else V x) cols:=by
 have m:=e.len
 refine ⟨by simpa using m,fun a c d j=>?_,fun c d=>?_⟩
 ·obtain ⟨u,i,f⟩:=e.rows a c d j
  have n:=Bg d j
  exact ⟨u,by rw [bK (by omega)];exact i,f⟩
 ·by_cases l:c=b
  ·subst l
   exact ⟨w,by rw [bV (by omega)],by show ZIr g w (if c=c then z else V c);rw [iP rfl];exact hw⟩
  ·obtain ⟨u,i,f⟩:=e.last c d
   exact ⟨u,by rw [bK (by omega)];exact i,by show ZIr g u (if c=b then z else V c);rw [iN l];exact f⟩
def EsOk.congr{g:aG}{E:Nat->Rat}{cols k j:Nat}{es:List IV}{V V':Nat->Int}(e:EsOk g E cols k es V j)(h:∀ b,b<j->V b=V' b):EsOk g E cols k es V' j:=
 ⟨e.len,e.rows,fun b a=>by rw [<- h b a];exact e.last b a⟩
def EsOk.next{g:aG}{E:Nat->Rat}{cols k:Nat}{es:List IV}{V:Nat->Int}(e:EsOk g E cols k es V cols)(h:∀ b,b<cols->V b=A5y E cols k b)(V':Nat->Int):EsOk g E cols (k+1) es V' 0:=by
 refine ⟨by rw [e.len,aK,aL];rfl,fun a b f c=>?_,fun b f=>by omega⟩
 by_cases d:a=k
 ·subst d;rw [<- h b c];exact e.last b c
 ·exact e.rows a b (by omega) c
section
variable {h g:aG} {K:VP} {A:Option aJ} {n c rows cols m:Nat} {E:Nat->Rat}
def A0o(gl:Gl h)(r:bB RQr h A (rows*cols) E)(hcap:rows*cols<=c)(hr:1<=rows)(hr2:rows<=10000)(hc:1<=cols)(hc2:cols<=10000)(hs:∀ i,i<rows*cols->Sz m (E i))(hm:1+cols*m+m<=6400000000)
 (hK:∀ h' g' o' T,h.le g'->Tab h' g' o' T (A5y E cols) (B23 E cols)->T.rows=rows->T.cols=cols->K (.pointer (some ⟨T.bt,0,none⟩)) h'):aW prog Gi #[.slice A (rows*cols) c,I (cols:Int)] h K:=by
 refine A57 _ _ _ _ ?_
 unfold A58
 have cj:rows*cols<=100000000:=by
  have:rows*cols<=10000*10000:=aZ hr2 hc2
  omega
 refine A71 ?_
 intro bt bg
 refine ⟨_,rfl,Dn (z:=.pointer none) (by kernel_rfl) ?_⟩
 intro W ai
 have a4:W≠bt:=by rintro rfl;rw [B9] at ai;cases ai
 refine ⟨_,rfl,?_⟩
 refine Ei (by kernel_rfl) (by kernel_rfl) rfl rfl (by decide) ?_
 have s0:=((Sep.refl h).new bg (.cells (cJ (.agg #[I (cols:Int),.slice none 0 0,.slice none 0 0])) Ud)).new ai (.cells ((cJ (.pointer none)).setIfInBounds 0 (.pointer (some ⟨bt,0,none⟩))) Pu)
 have n0:NT ((Cp.put bt (.cells (cJ (.agg #[I (cols:Int),.slice none 0 0,.slice none 0 0])) Ud)).put W (.cells ((cJ (.pointer none)).setIfInBounds 0 (.pointer (some ⟨bt,0,none⟩))) Pu)) W bt cols [] [] none 0 none 0:=
  ⟨⟨_,B9 _ _ _⟩,⟨_,by rw [B8 _ _ a4.symm,B9];rfl⟩,OwnSl.nil,OwnSl.nil,a4,⟨by simp,by simp⟩,⟨by simp,by simp⟩,fun b hb=>by cases hb⟩
 generalize (Cp.put bt (.cells (cJ (.agg #[I (cols:Int),.slice none 0 0,.slice none 0 0])) Ud)).put W (.cells ((cJ (.pointer none)).setIfInBounds 0 (.pointer (some ⟨bt,0,none⟩))) Pu)=o0 at s0 n0
 refine s0.call (Yx hc ?_)
 intro v g0 l0 ic cb s3
 have bound:∀ k,k<rows->∀ j,j<cols->Sz m (E (k*cols+j)):=fun k hk j hj=>hs _ (Bg hk hj)
 refine ⟨_,rfl,Uo ic hc (by omega) hcap (fun k G=>∃ (O o1:aG) (C:List IV) (u:List QV) (A1:Option aJ) (c1:Nat) (A2:Option aJ) (c2:Nat),g0.le O/\Sep G O o1/\NT o1 W bt cols C u A1 c1 A2 c2/\EsOk O E cols k C (fun _=>0) 0/\u.length=k/\Row RQr O u k (B23 E cols)) ?_ ?_ ?_ ?_⟩
 ·exact ⟨g0,o0,[],[],none,0,none,0,B3 _,s3,n0,⟨by simp,fun a b h1=>by omega,fun b h1=>by omega⟩,rfl,Row.nil⟩
 ·rintro k G ⟨O,o1,C,u,A1,c1,A2,c2,lg,s1,_⟩
  exact Heap.le_trans lg s1.le
 ·rintro k b7 ax ⟨O,o1,C,u,A1,c1,A2,c2,a5,s4,R,e1,D,rs⟩
  have bk:=bound k ax
  have cg:(k+1)*cols<=rows*cols:=aD _ ax
  have ca:(k+1)*cols=k*cols+cols:=by rw [aK,aL]
  have b4:k<=k*cols:=Nat.le_mul_of_pos_right k hc
  have ah:=Heap.le_trans l0 a5
  have a9:bB RQr h A ((k+1)*cols) E:=by
   have:=r.cut (c:=c) (l:=0) (k:=(k+1)*cols) (by omega) hcap
   rw [H8] at this
   exact this.congr fun i _=>by rw [aM]
  have ae:bB RQr h (J9 A ((k+1)*cols) (k*cols) 4) cols (A3a E cols k):=a9.cut (c:=(k+1)*cols) (l:=k*cols) (k:=cols) (by omega) (aF _)
  refine ⟨_,_,_,rfl,s4.call (Dw (gl.mono ah) (ae.mono K7 ah) (by omega) bk hm ?_)⟩
  intro sd Ad nd cd g2 l2 id b8 s5
  have cE:=R.c1 s5
  rw [e1.len,dE] at cE
  have d2:=Ld (f:=A3a E cols k) cols bk
  have aj:1+cols*m<=1+cols*m+m:=by omega
  refine ⟨_,_,_,_,rfl,_,R.cp s5,_,rfl,_,_,_,cE,fun L G=>∃ (j:Nat) (s:Bool) (B:Option aJ) (bn bc:Nat) (X o3:aG) (C:List IV) (A1:Option aJ) (c1:Nat),j<=cols/\L=[I (j:Int),.bool s,.slice B bn bc]/\g2.le X/\Sep G X o3/\NT o3 W bt cols C u A1 c1 A2 c2/\EsOk X E cols k C (B2o E cols k) j/\ZI X s B bn bc (B6b E cols k j:Int),
   fun L _=>cols-(iAt L 0).toNat,⟨0,false,none,0,0,g2,o1,C,A1,c1,by omega,rfl,B3 _,s5,R,(e1.mono l2).congr (fun b hb=>by omega),ZI.zero⟩,?_⟩
  rintro z bs bA bn bc cf ⟨j,sB,B,ci,ck,X,o3,ac,A3,c3,hj,eL,l3,s6,n3,e3,i3⟩
  simp only [bH,cQ,cF,bJ,true_and,and_true] at eL
  obtain ⟨rfl,rfl,rfl,rfl,rfl⟩:=eL
  have b3:B4 ((j:Int)+1)=((j+1:Nat):Int):=by rw [B7]<;>omega
  have ad:=Heap.le_trans ah (Heap.le_trans l2 l3)
  refine B6 (fun bw=>?_) (fun bo=>?_)
  ·have F:j<cols:=by omega
   obtain ⟨a,w,ea,iw,q0,q1,q2,q3⟩:=ae.qat F
   have aa:=Heap.le_trans ad s6.le
   refine ⟨a,ea,by omega,by omega,_,_,_,_,_,_,_,_,B5 aa q0,B5 aa q1,B5 aa q2,B5 aa q3,?_⟩
   refine s6.call (Kx (m:=1+cols*m+m) (K7 _ _ _ _ ad iw) (id.mono l3) ((bk j F).mono (by omega)) (d2.mono aj) hm ?_)
   intro s7 A7 n7 c7 g7 l7 i7 a0 bm
   refine ⟨_,_,_,_,rfl,bm.call (Cj (gl.mono (Heap.le_trans ad l7)).tz (i3.mono l7) i7 (B3i bk j hj) (A0h bk F) hm ?_)⟩
   intro A8 n8 c8 g8 l8 i8 ak N
   have z7:ZIr g8 ⟨s7,A7,n7,c7⟩ (B2o E cols k j):=i7.mono l8
   have hF:∀ h' g' o' A2' H,g8.le g'->Sep h' g' o'->NT o' W bt cols (ac++[⟨s7,A7,n7,c7⟩]) u A2' H A2 c2->(∃ (j':Nat) (s:Bool) (B:Option aJ) (bn bc:Nat) (X o3:aG) (C:List IV) (A1:Option aJ) (c1:Nat),j'<=cols/\[I (B4 ((j:Int)+1)),.bool false,.slice A8 n8 c8]=[I (j':Int),.bool s,.slice B bn bc]/\g2.le X/\Sep h' X o3/\NT o3 W bt cols C u A1 c1 A2 c2/\EsOk X E cols k C (B2o E cols k) j'/\ZI X s B bn bc (B6b E cols k j':Int))/\cols-(iAt [I (B4 ((j:Int)+1)),.bool false,.slice A8 n8 c8] 0).toNat<cols-(iAt [I (j:Int),.bool bs,.slice bA bn bc] 0).toNat:=by
    intro h' g' o' A2' H M s' n'
    rw [b3]
    refine ⟨⟨j+1,false,A8,n8,c8,g',o',_,A2',H,by omega,rfl,Heap.le_trans l3 (Heap.le_trans l7 (Heap.le_trans l8 M)),s',n',((e3.mono (Heap.le_trans l7 l8)).push z7).mono M,i8.mono M⟩,by simp only [Cd];omega⟩
   have J:ac.length<=100000000:=by have:=e3.len;omega
   refine ⟨_,_,_,_,rfl,_,n3.cp N,_,rfl,_,_,_,n3.c1 N,⟨_,n3.cp N,?_⟩,?_⟩
   ·exact n3.buildE N ⟨s7,A7,n7,c7⟩ J hF fun B m d G lp cp p=>⟨_,_,_,rfl,lp,p fun A2 c2 h2 _ q=>⟨_,_,_,rfl,_,rfl,q⟩⟩
   ·exact n3.buildE N ⟨s7,A7,n7,c7⟩ J hF fun B m d G lp cp p=>⟨_,_,_,rfl,lp,⟨_,cp,p fun A2 c2 h2 _ q=>⟨_,_,_,rfl,_,rfl,q⟩⟩,p fun A2 c2 h2 am q=>⟨_,_,_,rfl,_,am,_,rfl,q⟩⟩
  ·have F:j=cols:=by omega
   subst F
   have hg:((B6b E j k j:Nat):Int)=0↔B6b E j k j=0:=by omega
   refine ⟨fun L G=>∃ (s:Bool) (B:Option aJ) (bn bc:Nat) (g4:aG),L=[.bool s,.slice B bn bc]/\X.le g4/\Sep G g4 o3/\ZI g4 s B bn bc (Yw E j k:Int),?_,?_⟩
   ·refine s6.call (F9 i3 ?_)
    intro a0 s7
    refine ⟨_,rfl,B6 (fun e=>?_) (fun e=>?_)⟩
    ·refine s7.call (Ec (by omega) (by omega) ?_)
     intro V A8 n8 c8 g8 l8 i8 ak N
     refine ⟨_,_,_,_,rfl,_,_,_,_,g8,rfl,l8,N,?_⟩
     have:Yw E j k=1:=by unfold Yw;rw [iP (hg.1 e)]
     rw [this];exact i8
    ·refine ⟨_,_,_,_,X,rfl,B3 _,s7,?_⟩
     have:Yw E j k=B6b E j k j:=by unfold Yw;rw [iN (fun x=>e (hg.2 x))]
     rw [this];exact i3
   ·rintro cs cA cn cc a0 ⟨bv,bq,bd,bl,g4,eL,l4,s7,ic⟩
    obtain ⟨rfl,rfl,rfl,rfl⟩:cs=bv/\cA=bq/\cn=bd/\cc=bl:=by simpa using eL
    have e4:=e3.mono l4
    have aw:=n3.c1 s7
    rw [e4.len] at aw
    have au:ac≠[]:=by rintro rfl;have:=e4.len;simp at this;omega
    obtain ⟨Q,ao,rB⟩:=n3.oe.rowB au
    subst ao
    have b9:k*j+j<=c3:=by have:=n3.oe.1;rw [e4.len] at this;exact this
    have ba:(((k*j:Nat):Int)).toNat=k*j:=rfl
    have aq:J9 (some ⟨Q,0,none⟩) c3 ((((k*j:Nat):Int)).toNat) 2=some ⟨Q,k*j*2,none⟩:=by rw [ba,A4f (by omega),E6,aM]
    have bb:k*j+j-(((k*j:Nat):Int)).toNat=j:=by rw [ba];omega
    refine ⟨_,n3.cp s7,_,rfl,_,_,_,aw,⟨by omega,by omega⟩,?_⟩
    rw [aq,bb]
    refine ⟨fun L G=>∃ (n:Nat) (g o:aG) (C:List IV),n<=j/\L=[I (n:Int)]/\g4.le g/\Sep G g o/\NT o W bt j C u (some ⟨Q,0,none⟩) c3 A2 c2/\EsOk g E j k C (fun b=>if b<n then A5y E j k b else B2o E j k b) j,fun L _=>j-(iAt L 0).toNat,⟨0,g4,o3,ac,by omega,rfl,B3 _,s7,n3,e4.congr fun b hb=>by rw [iN (by omega)]⟩,?_⟩
    rintro z ak ⟨n,g5,o5,S,ch,eL,l5,V,t,e5⟩
    obtain rfl:=sI1 eL
    have az:B4 ((n:Int)+1)=((n+1:Nat):Int):=by rw [B7]<;>omega
    have bu:B4 (((k*j:Nat):Int)+(n:Int))=((k*j+n:Nat):Int):=by rw [B7]<;>omega
    have ar:=t.c1 V
    rw [e5.len] at ar
    have bi:=Ua E j k
    refine B6 (fun bw=>?_) (fun bo=>?_)
    ·have F:n<j:=by omega
     obtain ⟨w,ew,iw⟩:=e5.last n F
     rw [iN (aS n)] at iw
     obtain ⟨ce,af,bj⟩:=t.oe.rowB (by rintro rfl;have:=e5.len;simp at this;omega)
     simp only [aQ,aY,and_true] at af
     subst af
     have Z:k*j+n<S.length:=by have:=e5.len;omega
     have bx:S[k*j+n]=w:=by
      rw [aI Z] at ew
      cases ew;rfl
     have ha:k*j*2+n*2=(k*j+n)*2:=by rw [aK]
     have cell:∀ x v,(enc w)[x]? = some v->ak.cell? (aE (aE ⟨Q,k*j*2,none⟩ (((n:Int)).toNat*2)) x)=some v:=by
      intro x v hx
      refine V.cell ?_
      rw [E6,E6]
      show o5.cell? ⟨Q,k*j*2+n*2+x,none⟩=_
      rw [ha]
      exact bj.cell Z (by rw [bx];exact hx)
     refine ⟨_,rfl,by omega,by omega,_,_,_,_,cell 0 _ rfl,cell 1 _ rfl,_,t.cp V,_,rfl,_,_,_,ar,?_⟩
     refine V.call (Q3 iw (ic.mono l5) (A0h bk F) (A1s bk) hm (by omega) ?_)
     intro s9 A9 n9 c9 g9 l9 i9 a8 ay
     refine ⟨_,_,_,_,rfl,V.le_le ay l9,_,rfl,by omega,by omega,?_⟩
     rw [bu]
     refine OwnSl.store A05 (y:=(⟨s9,A9,n9,c9⟩:IV)) rfl ay t.oe Z rfl ?_
     intro b5 be br av ko
     obtain ⟨x1,bz⟩:=t.hp
     obtain ⟨x2,an⟩:=t.ht
     have b1:W≠Q:=fun e=>t.a1.1 (by rw [e])
     have b2:bt≠Q:=fun e=>t.a1.2 (by rw [e])
     rw [az]
     refine ⟨⟨n+1,g9,be,S.set (k*j+n) ⟨s9,A9,n9,c9⟩,by omega,rfl,Heap.le_trans l5 l9,br,⟨⟨x1,by rw [ko _ b1];exact bz⟩,⟨x2,by rw [ko _ b2,cI];exact an⟩,av,t.os.keep fun b x hb hx=>by rw [ko b (fun e=>t.a3 Q rfl (by rw [<- e];exact hb))];exact hx,t.ne,t.a1,t.a2,t.a3⟩,((e5.mono l9).set F (show ZIr g9 ⟨s9,A9,n9,c9⟩ (A5y E j k n) from i9)).congr fun b hb=>?_⟩,by simp only [Cd];omega⟩
     show (if b=n then A5y E j k n else if b<n then A5y E j k b else B2o E j k b)=if b<n+1 then A5y E j k b else B2o E j k b
     by_cases eb:b=n
     ·subst eb;rw [iP rfl,iP (by omega)]
     ·rw [iN eb]
      by_cases h7:b<n
      ·rw [iP h7,iP (by omega)]
      ·rw [iN h7,iN (by omega)]
    ·have b0:n=j:=by omega
     subst b0
     have eN:EsOk g5 E n (k+1) S (fun _=>0) 0:=e5.next (fun b hb=>by rw [iP hb]) _
     have sS:=B22 (E:=E) (cols:=n) (i:=k) bk
     have fr:∀ (gg:aG) (w:QV),g5.le gg->RQ gg w (bZ (Bf (A3a E n k) n:Int) (Yw E n k:Int))->∀ h' g' o' A2' H,gg.le g'->Sep h' g' o'->NT o' W bt n S (u++[w]) (some ⟨Q,0,none⟩) c3 A2' H->∃ (O o1:aG) (C:List IV) (u:List QV) (A1:Option aJ) (c1:Nat) (A2:Option aJ) (c2:Nat),g0.le O/\Sep h' O o1/\NT o1 W bt n C u A1 c1 A2 c2/\EsOk O E n (k+1) C (fun _=>0) 0/\u.length=k+1/\Row RQr O u (k+1) (B23 E n):=by
      intro gg w a7 iw h' g' o' A2' H M s' n'
      have ag:O.le g':=Heap.le_trans l2 (Heap.le_trans l3 (Heap.le_trans l4 (Heap.le_trans l5 (Heap.le_trans a7 M))))
      refine ⟨g',o',S,u++[w],_,c3,A2',H,Heap.le_trans a5 ag,s',n',eN.mono (Heap.le_trans a7 M),by simp [D],?_⟩
      have bh:Row RQr g' u u.length (B23 E n):=by rw [D];exact rs.mono K7 ag
      have:=bh.push (w:=w) (by rw [D];exact K7 _ _ _ _ M iw)
      rw [aC,D] at this
      exact this
     have a6:=(gl.mono (Heap.le_trans ad (Heap.le_trans l4 l5))).tz
     have ap:=(id.mono (Heap.le_trans l3 (Heap.le_trans l4 l5)))
     have al:u.length<=100000000:=by omega
     refine ⟨_,t.cp V,_,rfl,_,_,_,t.c2 V,⟨_,t.cp V,?_⟩,?_⟩
     ·refine V.call (Bl a6 ap (ic.mono l5) (d2.mono aj) (A1s bk) hm ?_)
      intro w gf lf iw a8 s9
      refine ⟨_,_,_,_,_,_,_,_,rfl,V.le_le s9 lf,?_⟩
      exact t.buildS s9 w al (fr gf w lf iw) fun B m d G lp cp p=>⟨_,_,_,rfl,lp,p fun A2 c2 h2 _ q=>⟨_,_,_,rfl,_,rfl,q⟩⟩
     ·refine V.call (Bl a6 ap (ic.mono l5) (d2.mono aj) (A1s bk) hm ?_)
      intro w gf lf iw a8 s9
      refine ⟨_,_,_,_,_,_,_,_,rfl,V.le_le s9 lf,⟨_,t.cp s9,?_⟩,?_⟩
      ·exact t.buildS s9 w al (fr gf w lf iw) fun B m d G lp cp p=>⟨_,_,_,rfl,lp,p fun A2 c2 h2 _ q=>⟨_,_,_,rfl,_,rfl,q⟩⟩
      ·exact t.buildS s9 w al (fr gf w lf iw) fun B m d G lp cp p=>⟨_,_,_,rfl,lp,⟨_,cp,p fun A2 c2 h2 _ q=>⟨_,_,_,rfl,_,rfl,q⟩⟩,p fun A2 c2 h2 am q=>⟨_,_,_,rfl,_,am,_,rfl,q⟩⟩
 ·rintro G ⟨O,o1,C,u,A1,c1,A2,c2,lg,s1,R,e1,D,rs⟩
  refine ⟨_,R.cp s1,?_⟩
  have J:C.length=rows*cols:=by rw [e1.len];rfl
  have b6:0<rows*cols:=Nat.mul_pos (by omega) (by omega)
  obtain ⟨Q,ao,rE⟩:=R.oe.rowB (by rintro rfl;simp at J;omega)
  obtain ⟨bS,bf,rS⟩:=R.os.rowB (by rintro rfl;simp at D;omega)
  subst ao bf
  obtain ⟨x2,an⟩:=R.ht
  refine hK G O o1 ⟨bt,Q,bS,rows,cols,c1,c2⟩ (Heap.le_trans l0 lg) ⟨s1,fun (e:bt=Q)=>R.a1.2 (by rw [<- e]),fun (e:bt=bS)=>R.a2.2 (by rw [<- e]),fun (e:Q=bS)=>R.a3 Q rfl (by rw [e]),⟨x2,by rw [an,J,D]⟩,⟨C,rE,J,fun i j hi hj=>e1.rows i j hi hj⟩,⟨u,rS,D,rs⟩,by rw [<- J];exact R.oe.1,by rw [<- D];exact R.os.1,⟨hr2,hc2⟩,hc⟩ rfl rfl
end
structure MOk (r c:Int) (n:Nat) (ls:Nat->List UInt8) (rows cols:Nat):Prop where
 er:r=rows
 ec:c=cols
 r1:1<=rows
 r2:rows<=64
 c1:1<=cols
 c2:cols<=64
 len:n=rows*cols
 num:∀ i,i<n->cR (ls i)
def A7h(r c:Int)(n:Nat):Prop:=1<=r/\r<=64/\1<=c/\c<=64/\(n:Int)=r*c
def MOk.of{r c:Int}{n:Nat}{ls:Nat->List UInt8}(s:A7h r c n)(h:∀ i,i<n->cR (ls i)):MOk r c n ls r.toNat c.toNat:=by
 obtain ⟨j,e,d,f,g⟩:=s
 refine ⟨by omega,by omega,by omega,by omega,by omega,by omega,?_,h⟩
 have a:(r.toNat:Int)=r:=by omega
 have b:(c.toNat:Int)=c:=by omega
 have:((r.toNat*c.toNat:Nat):Int)=r*c:=by rw [aT,a,b]
 omega
def MOk.shape{r c:Int}{n:Nat}{ls:Nat->List UInt8}{rows cols:Nat}(m:MOk r c n ls rows cols):A7h r c n:=by
 obtain ⟨rfl,rfl,f,d,b,e,a,_⟩:=m
 exact ⟨by omega,by omega,by omega,by omega,by rw [a,aT]⟩
abbrev Xh(r c:Int)(A:Option aJ)(n cap:Nat):bY:=.agg #[I r,I c,.slice A n cap]
def Mx(r c:Int)(n:Nat)(ls:Nat->List UInt8):Prop:=∃ rows cols,MOk r c n ls rows cols
def Wx{r c:Int}{n:Nat}{ls:Nat->List UInt8}:Mx r c n ls↔A7h r c n/\∀ i,i<n->cR (ls i):=by
 constructor
 ·rintro ⟨a,b,m⟩;exact ⟨m.shape,m.num⟩
 ·rintro ⟨s,h⟩;exact ⟨_,_,MOk.of s h⟩
section
variable {h:aG} {K:VP} {A:Option aJ} {n cap m:Nat} {r c:Int} {ls:Nat->List UInt8}
def Nz(hn:n<=1000000000)(hK1:A7h r c n->K (.bool true) h)(hK0:¬ A7h r c n->K (.bool false) h):aW prog Gj #[Xh r c A n cap] h K:=by
 refine A59 _ _ _ _ _ ?_
 unfold A5a
 refine B6 (fun j=>B6 (fun a=>B6 (fun g=>B6 (fun b=>?_) (fun e=>hK0 fun s=>e s.2.2.2.1)) (fun e=>hK0 fun s=>e s.2.2.1)) (fun e=>hK0 fun s=>e s.2.1)) (fun e=>hK0 fun s=>e s.1)
 have i:r*c<=64*64:=Int.mul_le_mul a b (by omega) (by omega)
 have d:0<=r*c:=Int.mul_nonneg (by omega) (by omega)
 have f:B4 (r*c)=r*c:=B7 (by omega) (by omega)
 rw [f]
 by_cases e:(n:Int)=r*c
 ·rw [show ((n:Int)==r*c)=true by simpa using e]
  exact hK1 ⟨j,a,g,b,e⟩
 ·rw [show ((n:Int)==r*c)=false by simpa using e]
  exact hK0 fun s=>e s.2.2.2.2
def Em(gl:Gl h)(rv':bB SSr h A n ls)(hn:n<=1000000)(hl:LL n ls)
 (hK1:∀ rows cols,MOk r c n ls rows cols->∀ b h',Own RQr h h' b n (fun i=>rv (ls i))->K (.tuple #[.slice (some ⟨b,0,none⟩) n n,.bool true]) h')
 (hK0:¬ Mx r c n ls->∀ h',h.le h'->K (.tuple #[.slice none 0 0,.bool false]) h'):aW prog Qt #[Xh r c A n cap] h K:=by
 refine B8q _ _ _ _ _ ?_
 unfold C4n
 refine Nz (by omega) (fun s=>⟨_,rfl,?_⟩) (fun s=>⟨_,rfl,hK0 (fun x=>s (Wx.1 x).1) h (B3 _)⟩)
 refine Ae gl rv' hn hl (fun a b h' w=>⟨_,_,_,_,rfl,hK1 _ _ (MOk.of s a) b h' w⟩) (fun d h' l=>⟨_,_,_,_,rfl,hK0 (fun x=>d (Wx.1 x).2) h' l⟩)
def Uy(gl:Gl h)(rv':bB SSr h A n ls)(hn:n<=1000000)(hl:LL n ls)
 (hK1:Mx r c n ls->K (.bool true) h) (hK0:¬ Mx r c n ls->K (.bool false) h):aW prog Tq #[Xh r c A n cap] h K:=by
 refine B5t _ _ _ _ _ ?_
 unfold C04
 refine Nz (by omega) (fun s=>⟨_,rfl,?_⟩) (fun s=>⟨_,rfl,hK0 (fun x=>s (Wx.1 x).1)⟩)
 refine ⟨fun L g=>∃ k:Nat,k<=n/\L=[I k]/\g=h/\∀ i,i<k->cR (ls i),fun L _=>n-(iAt L 0).toNat,⟨0,by omega,rfl,rfl,fun i j=>by omega⟩,?_⟩
 rintro t g ⟨k,q,o,rfl,b⟩
 obtain rfl:=sI1 o
 refine B6 (fun p=>?_) (fun m=>?_)
 ·have d:k<n:=by omega
  obtain ⟨a,rfl,l⟩:=rv'.sat d
  refine ⟨a,rfl,by omega,by omega,_,l,By gl (hl k d) (fun f=>⟨_,rfl,?_⟩) (fun f=>⟨_,rfl,hK0 (fun y=>f ((Wx.1 y).2 k d))⟩)⟩
  rw [wiS k (by omega)]
  refine ⟨⟨k+1,by omega,rfl,rfl,fun i j=>?_⟩,by simp only [Cd];omega⟩
  by_cases e:i=k
  ·subst e;exact f
  ·exact b i (by omega)
 ·have:k=n:=by omega
  subst this
  exact hK1 (Wx.2 ⟨s,b⟩)
def A6h{f:Nat->Rat}(gl:Gl h)(rq:bB RQr h A n f)(hn:n<=1000000)(hs:∀ i,i<n->Sz m (f i))(hm:m<=40000000)
 (hK:∀ b h',Own SSr h h' b n (fun i=>I9 (f i))->K (Xh r c (some ⟨b,0,none⟩) n n) h'):aW prog A1e #[I r,I c,.slice A n cap] h K:=by
 refine B5s _ _ _ _ _ ?_
 unfold C03
 exact Hz gl rq hn hs hm fun b h' w=>⟨_,_,_,rfl,hK b h' w⟩
end
end Go.Proofs.YtmbfcbbkbefgfaaGreatDoor
namespace Go.Proofs.YtmbfcbbkbefgfaaGreatDoor
set_option maxRecDepth 20000
def ZrE(n c:Nat)(s:ES):Prop:=∀ i j,i<n->s.cs.length<=i->j<c->s.R i j=0
def Yh(n c:Nat)(s:ES)(h:s.cs.length<=n):s.cs.length<=Hm n c s/\Hm n c s<=n/\(Hm n c s<n->s.R (Hm n c s) c≠0)/\(∀ i,s.cs.length<=i->i<Hm n c s->s.R i c=0):=by
 have d:=A44 (fun i=>decide (s.R i c≠0)) (n-s.cs.length) s.cs.length
 have a:=Tk (fun i=>decide (s.R i c≠0)) (n-s.cs.length) s.cs.length
 have b:=A0w (fun i=>decide (s.R i c≠0)) (n-s.cs.length) s.cs.length
 have f:fnd (fun i=>decide (s.R i c≠0)) (n-s.cs.length) s.cs.length=Hm n c s:=rfl
 rw [f] at d a b
 refine ⟨d.1,by omega,fun j=>?_,fun i g e=>?_⟩
 ·have:=b (by omega);simpa using this
 ·have:=a i g e;simpa using this
def B7l{R:Nat->Nat->Rat}{k c:Nat}(hz:∀ b,b<c->R k b=0):elimE R k c=Bt R k c:=by
 funext a b
 unfold elimE Bt
 by_cases e:a=k
 ·rw [iP e,iP e]
 ·rw [iN e,iN e]
  split
  ·rename_i d
   rcases d with d|d
   ·rw [d];grind
   ·rw [hz b d];grind
  ·rfl
structure EqA (n w c:Nat) (A:Nat->Nat->Rat) (s:ES):Prop where
 len:s.cs.length<=n
 zero:ZrE n c s
 lt:∀ x∈s.cs,x<c
 elim:∃ B,Elim n w B s.R (fun m=>s.cs.getD m 0) s.cs.length/\(∀ i,i<n->∃ i',i'<n/\∀ j,B i' j=A i j)/\(∀ i,i<n->∃ i',i'<n/\∀ j,B i j=A i' j)
 comb:∃ T:Nat->Nat->Rat,∀ i j,i<n->j<w->s.R i j=sm n fun l=>T i l*A l j
def A5m{k l i:Nat}:xch k l (xch k l i)=i:=by unfold xch;repeat' split
                                             all_goals omega
def EqA.start(n w:Nat)(A:Nat->Nat->Rat):EqA n w 0 A ⟨A,[],1⟩:=by
 refine ⟨bN _,fun i j _ _ d=>by omega,fun x c=>(by cases c),⟨A,Elim.start,fun i a=>⟨i,a,fun _=>rfl⟩,fun i a=>⟨i,a,fun _=>rfl⟩⟩,⟨fun i l=>if l=i then 1 else 0,fun i j a _=>?_⟩⟩
 show A i j=sm n fun l=>(if l=i then (1:Rat) else 0)*A l j
 rw [A31 a fun l _ b=>by rw [iN b,bO],iP rfl,cT]
def EqA.step{n w c:Nat}{A:Nat->Nat->Rat}{s:ES}(h:EqA n w c A s)(hc:c<w):EqA n w (c+1) A (Fp n c s):=by
 obtain ⟨C,f2,f3,W⟩:=Yh n c s h.len
 unfold Fp
 by_cases y:s.cs.length<n
 ·rw [iP y]
  by_cases p:Hm n c s<n
  ·rw [iP p]
   have L:=f3 p
   generalize Hm n c s=r at *
   obtain ⟨B,E,F,G⟩:=h.elim
   obtain ⟨T,M⟩:=h.comb
   have Z:∀ b,b<c->s.R r b=0:=fun b D=>h.zero r b p C D
   have z:=Tg s.cs.length r
   have o:∀ i,i<n->xch s.cs.length r i<n:=fun i d=>Ro y p d
   have t:(s.cs++[c]).length=s.cs.length+1:=by simp
   have N:elimE (fun i=>s.R (xch s.cs.length r i)) s.cs.length c=Bt (fun i=>s.R (xch s.cs.length r i)) s.cs.length c:=B7l fun b D=>by rw [z];exact Z b D
   refine ⟨by show (s.cs++[c]).length<=n;omega,fun i j d k u=>?_,fun x a=>?_,⟨fun i=>B (xch s.cs.length r i),?_,fun i d=>?_,fun i d=>?_⟩,?_⟩
   ·show elimE (fun i=>s.R (xch s.cs.length r i)) s.cs.length c i j=0
    have O:s.cs.length+1<=i:=by have:(s.cs++[c]).length<=i:=k;omega
    have H:=B1h (i:=i) C (show s.cs.length<=i by omega)
    unfold elimE
    rw [iN (by omega)]
    simp only [z]
    by_cases e:j=c
    ·subst e
     split
     ·rename_i q
      rcases q with q|q
      ·exact q
      ·omega
     ·grind
    ·rw [iP (.inr (by omega))]
     exact h.zero _ j (o i d) H (by omega)
   ·rcases List.mem_append.1 a with a|a
    ·have:=h.lt x a;omega
    ·simp at a;omega
   ·show Elim n w _ (elimE (fun i=>s.R (xch s.cs.length r i)) s.cs.length c) _ (s.cs++[c]).length
    rw [N,t]
    refine ((E.swap C p).cs_congr fun m X=>(A3z s.cs c m X).symm).step y hc (A40 _ _) ?_
    show s.R (xch s.cs.length r s.cs.length) c≠0
    rw [z];exact L
   ·obtain ⟨J,q,S⟩:=F i d
    exact ⟨xch s.cs.length r J,o J q,fun j=>by show B (xch _ _ (xch _ _ J)) j=_;rw [A5m];exact S j⟩
   ·exact G _ (o i d)
   ·refine ⟨fun i l=>if i=s.cs.length then T r l/s.R r c else T (xch s.cs.length r i) l-s.R (xch s.cs.length r i) c*(T r l/s.R r c),fun i j d u=>?_⟩
    show elimE (fun i=>s.R (xch s.cs.length r i)) s.cs.length c i j=_
    rw [N]
    unfold Bt
    simp only [z]
    have Q:sm n (fun l=>T r l/s.R r c*A l j)=s.R r j/s.R r c:=by
     rw [M r j p u,bM,aV _ (s.R r c)⁻¹,<- Gz]
     exact D7 fun l _=>by rw [bM];grind
    by_cases e:i=s.cs.length
    ·simp only [iP e]
     exact Q.symm
    ·simp only [iN e]
     have V:=M (xch s.cs.length r i) j (o i d) u
     rw [<- Q,V,<- Gz]
     have:∀ f g:Nat->Rat,sm n f-sm n g=sm n fun l=>f l-g l:=fun f g=>by
      rw [dA,<- A32,<- Uk]
      exact D7 fun l _=>(dA _ _).symm
     rw [this]
     exact D7 fun l _=>by grind
  ·rw [iN p]
   refine ⟨h.len,fun i j d k u=>?_,fun x a=>by have:=h.lt x a;omega,h.elim,h.comb⟩
   show s.R i j=0
   by_cases e:j=c
   ·rw [e];exact W i k (by omega)
   ·exact h.zero i j d k (by omega)
 ·rw [iN y]
  exact ⟨h.len,fun i j d k u=>by omega,fun x a=>by have:=h.lt x a;omega,h.elim,h.comb⟩
def EqA.run{n w:Nat}(A:Nat->Nat->Rat):∀ c,c<=w->EqA n w c A (A87 n ⟨A,[],1⟩ c):=by
 intro c
 induction c with
 | zero=>exact fun _=>EqA.start n w A
 | succ c ih=>exact fun a=>(ih (by omega)).step (by omega)
def C0v(x:Nat->Rat)(f:Nat->Rat):Nat->List Nat->Nat->Rat
 | _,[]=>x
 | i,c::cs=>C0v (fun j=>if j=c then f i else x j) f (i+1) cs
def EqA.none{n w:Nat}{A:Nat->Nat->Rat}{s:ES}(h:EqA n (w+1) w A s){i:Nat}(hi:i<n)(hk:s.cs.length<=i)(hne:s.R i w≠0):∃ y:Nat->Rat,(∀ j,j<w->sm n (fun l=>y l*A l j)=0)/\sm n (fun l=>y l*A l w)=1:=by
 obtain ⟨T,c⟩:=h.comb
 have b:∀ j,j<w+1->sm n (fun l=>T i l/s.R i w*A l j)=s.R i j/s.R i w:=by
  intro j a
  rw [c i j hi a,bM,aV _ (s.R i w)⁻¹,<- Gz]
  exact D7 fun l _=>by rw [bM];grind
 refine ⟨fun l=>T i l/s.R i w,fun j a=>?_,?_⟩
 ·rw [b j (by omega),h.zero i j hi hk a];grind
 ·rw [b w (by omega)];grind
def mtx(E:Nat->Rat)(cols:Nat):Nat->Nat->Rat:=fun i j=>E (i*cols+j)
def elE(E:Nat->Rat)(rows cols c:Nat):ES:=A87 rows ⟨mtx E cols,[],1⟩ c
def elP(E:Nat->Rat)(rows cols c:Nat):PS:=Co rows ⟨A5y E cols,B23 E cols,[],1,1⟩ c
def B3z(E:Nat->Rat){rows cols c:Nat}(hc:c<=cols):ERel rows cols c (mtx E cols) (elE E rows cols c) (elP E rows cols c):=
 (ERel.start (fun i j _ a=>C0n E cols i a) (fun i _=>by have:=B6o E cols i;grind)).run c hc
def C1h(E:Nat->Rat){rows cols c:Nat}(hc:c<=cols):(elP E rows cols c).cs=(elE E rows cols c).cs:=(B3z E hc).cs.symm
def C3p(E:Nat->Rat){rows cols c:Nat}(hc:c<=cols){i j:Nat}(hi:i<rows)(hj:j<cols)(h:i<(elE E rows cols c).cs.length\/j<c):bZ ((elP E rows cols c).M i j) (elP E rows cols c).last=(elE E rows cols c).R i j:=by
 have r:=B3z E hc (rows:=rows)
 have b:=r.val i j hi hj
 have d:=W8 r.last
 rw [cK,b]
 by_cases a:i<(elE E rows cols c).cs.length
 ·rw [iP a,aV,bM,dM,Rat.mul_inv_cancel _ d,Rat.mul_one]
 ·rw [iN a,r.zero i j hi (by omega) (by omega),aX,aX]
  rw [bM,bO]
def bnd(cols m:Nat):Nat:=1+cols*m+m
def C3o{E:Nat->Rat}{rows cols m:Nat}(h:∀ i,i<rows*cols->Sz m (E i)):ZbP rows cols (bnd cols m) (bnd cols m) ⟨A5y E cols,B23 E cols,[],1,1⟩:=by
 have e:∀ i,i<rows->∀ j,j<cols->Sz m (E (i*cols+j)):=fun i f j g=>h _ (Bg f g)
 refine ⟨fun a b d c=>?_,?_,fun a d=>B22 (e a d),bN _⟩
 ·show ZB (3^0*bnd cols m) (A5y E cols a b)
  rw [dR,aL];exact C0m (e a d) c
 ·show ZB (3^0*bnd cols m) 1
  exact ZB.one (by unfold bnd;omega)
def C3n{E:Nat->Rat}{rows cols m c:Nat}(h:∀ i,i<rows*cols->Sz m (E i))(hc:c<=cols):ZbP rows cols (bnd cols m) (bnd cols m) (elP E rows cols c):=(C3o h).run (by unfold bnd;omega) c hc
def C1g(E:Nat->Rat)(rows cols c:Nat):(elP E rows cols c).last≠0:=(A38 rows _ (show (1:Int)≠0 by decide) (.inl rfl) (bN _) c).1
structure Own2 (h h':aG) (b n:Nat) (f:Nat->List UInt8) (A:Option aJ) (cap:Nat) (l:List Int):Prop where
 ex:∃ g o xs,h.le g/\Sep h' g o/\RowX o b xs/\xs.length=n/\Row SSr g xs n f/\OwnSl o I4 A cap l/\A≠some ⟨b,0,none⟩
section
variable {h g o:aG} {T:Tb} {M:Nat->Nat->Int} {S:Nat->Rat}
end
section
variable {h:aG} {K:VP} {A:Option aJ} {n cap m:Nat} {r c:Int} {ls:Nat->List UInt8}
abbrev rvs(ls:Nat->List UInt8):Nat->Rat:=fun i=>rv (ls i)
def A30{E:Nat->Rat}{rows cols cc nq:Nat}(gl:Gl h)(rq:bB RQr h A (rows*cols) E)(hcap:rows*cols<=cap)(hr:1<=rows)(hr2:rows<=10000)(hc:1<=cols)(hc2:cols<=10000)(hcc:cc<=cols)(hs:∀ i,i<rows*cols->Sz m (E i))(hnq:∀ k,k<=cc->(elP E rows cols k).cs.length<=nq)(hm:2*(3^nq*bnd cols m)+1<=100000000){K:VP}
 (hK:∀ T h1,aW prog Ot #[.pointer (some ⟨T.bt,0,none⟩),I (cc:Int)] h1 (fun r h'=>∃ g' o' A' cap' w,h.le g'/\Tab h' g' o' T (elP E rows cols cc).M (elP E rows cols cc).S/\OwnSl o' I4 A' cap' (zs (elP E rows cols cc).cs)/\C2s T A'/\ZIr g' w (elP E rows cols cc).last/\
  r= .tuple #[.slice A' (elP E rows cols cc).cs.length cap',w.v,I (elP E rows cols cc).sgn])->h.le h1->T.rows=rows->T.cols=cols->K (.pointer (some ⟨T.bt,0,none⟩)) h1):aW prog Gi #[.slice A (rows*cols) cap,I (cols:Int)] h K:=by
 have h1:bnd cols m<=3^nq*bnd cols m:=dT _ (cY (by decide))
 have n:bnd cols m=1+cols*m+m:=rfl
 refine A0o (m:=m) gl rq hcap hr hr2 hc hc2 hs (by omega) ?_
 intro h' g' o' T e t a d
 refine hK T h' ?_ (Heap.le_trans e t.sep.le) a d
 have c:=C3o hs
 rw [<- a,<- d] at c
 refine A3g (m:=bnd cols m) (l:=bnd cols m) t (by omega) (by unfold bnd;omega) (by rw [a];exact hnq) hm (by rw [a] at c ⊢;rw [d] at c ⊢;exact c) ?_
 intro n p q A2 b w s g f o u j
 rw [a] at g f j ⊢
 exact ⟨p,q,A2,b,w,Heap.le_trans e s,g,f,o,j,rfl⟩
end
def Uw(o:aG)(A:Option aJ):aG:=fun k=>if A=some ⟨k,0,none⟩ then o k else none
def B31(o:aG)(A:Option aJ):(Uw o A).le o:=fun k x e=>by
 unfold Uw at e
 split at e
 ·exact e
 ·cases e
def OwnSl.only{α:Type}[E:Enc α]{o:aG}{e:bW}{A:Option aJ}{c:Nat}{xs:List α}(w:OwnSl o e A c xs):OwnSl (Uw o A) e A c xs:=w.keep fun b x d a=>by unfold Uw;rw [iP d];exact a
def A6g(o:aG){A:Option aJ}{k:Nat}(h:A≠some ⟨k,0,none⟩):Uw o A k=none:=by unfold Uw;rw [iN h]
section
variable {h:aG} {K:VP} {A:Option aJ} {n cap m:Nat} {r c:Int} {ls:Nat->List UInt8}
end
section
variable {h:aG} {K:VP} {A:Option aJ} {n cap m:Nat} {r c:Int} {ls:Nat->List UInt8}
end
structure HV where
 A:Option aJ
 n:Nat
 c:Nat
abbrev HV.v(s:HV):bY:=.slice s.A s.n s.c
instance:Enc HV:=⟨⟨fun s=>[.slice s.A s.n s.c],1,fun _=>rfl,fun s v hv=>by rw [List.mem_singleton.1 hv];rfl⟩⟩
def RowsV(h:aG)(A:Option aJ)(n w:Nat)(M:Nat->Nat->Rat):Prop:=∃ hd:List HV,SlF h A hd/\hd.length=n/\∀ i,i<n->∃ s,hd[i]? = some s/\s.n=w/\w<=s.c/\bB NQr h s.A w (M i)
def RowsV.mono{h h':aG}{A:Option aJ}{n w:Nat}{M:Nat->Nat->Rat}(l:h.le h')(r:RowsV h A n w M):RowsV h' A n w M:=by
 obtain ⟨d,s,e,r⟩:=r
 refine ⟨d,s.mono l,e,fun i a=>?_⟩
 obtain ⟨s,b,f,c,r⟩:=r i a
 exact ⟨s,b,f,c,r.mono P8 l⟩
def RowsV.congr{h:aG}{A:Option aJ}{n w:Nat}{M M':Nat->Nat->Rat}(r:RowsV h A n w M)(e:∀ i j,i<n->j<w->M i j=M' i j):RowsV h A n w M':=by
 obtain ⟨f,s,a,r⟩:=r
 refine ⟨f,s,a,fun i b=>?_⟩
 obtain ⟨s,a,g,d,r⟩:=r i b
 exact ⟨s,a,g,d,r.congr fun j c=>e i j b c⟩
def RowsV.at{h:aG}{A:Option aJ}{n w:Nat}{M:Nat->Nat->Rat}(r:RowsV h A n w M){i:Nat}(hi:i<n):∃ (a:aJ) (s:HV),A=some a/\s.n=w/\w<=s.c/\h.cell? (aE a (i*1))=some (.slice s.A s.n s.c)/\bB NQr h s.A w (M i):=by
 obtain ⟨j,s,e,r⟩:=r
 obtain ⟨u,b,k,g,r⟩:=r i hi
 obtain ⟨a,l,f⟩:=SlF.at (by decide) s (i:=i) (by omega)
 have d:j[i]=u:=by
  rw [aI (by omega)] at b;exact dH b
 have:=f 0 _ (by rw [d];rfl)
 rw [Iw] at this
 exact ⟨a,u,l,k,g,this,r⟩
structure Mt (h g o:aG) (bo:Nat) (rb:Nat->Nat) (n w:Nat) (M:Nat->Nat->Rat):Prop where
 sep:Sep h g o
 hd:∃ hd:List HV,RowB o bo hd/\hd.length=n/\∀ i,i<n->∃ c,hd[i]? = some ⟨some ⟨rb i,0,none⟩,w,c⟩/\w<=c
 nb:∀ i,i<n->rb i≠bo
 inj:∀ i j,i<n->j<n->rb i=rb j->i=j
 row:∀ i,i<n->∃ xs:List QV,RowB o (rb i) xs/\xs.length=w/\Row NQr g xs w (M i)
section
variable {h g o:aG} {bo n w:Nat} {rb:Nat->Nat} {M:Nat->Nat->Rat}
def Mt.next(t:Mt h g o bo rb n w M){h' g':aG}(s:Sep h' g' o)(l:g.le g'):Mt h' g' o bo rb n w M:=by
 refine ⟨s,t.hd,t.nb,t.inj,fun i b=>?_⟩
 obtain ⟨a,r,e,q⟩:=t.row i b
 exact ⟨a,r,e,q.mono P8 l⟩
def Mt.congr(t:Mt h g o bo rb n w M){M':Nat->Nat->Rat}(e:∀ i j,i<n->j<w->M i j=M' i j):Mt h g o bo rb n w M':=by
 refine ⟨t.sep,t.hd,t.nb,t.inj,fun i a=>?_⟩
 obtain ⟨b,r,d,q⟩:=t.row i a
 exact ⟨b,r,d,q.congr fun j c=>e i j a c⟩
def Mt.keep(t:Mt h g o bo rb n w M){h' g' o':aG}(s:Sep h' g' o')(l:g.le g')(hk:∀ k x,o k=some x->(k=bo\/∃ i,i<n/\k=rb i)->o' k=some x):Mt h' g' o' bo rb n w M:=by
 refine ⟨s,?_,t.nb,t.inj,fun i d=>?_⟩
 ·obtain ⟨f,⟨e,ex,a⟩,c,b⟩:=t.hd
  exact ⟨f,⟨e,ex,hk _ _ a (.inl rfl)⟩,c,b⟩
 ·obtain ⟨j,⟨e,ex,a⟩,c,b⟩:=t.row i d
  exact ⟨j,⟨e,ex,hk _ _ a (.inr ⟨i,d,rfl⟩)⟩,c,b.mono P8 l⟩
def Mt.own(t:Mt h g o bo rb n w M):(∃ x,o bo=some x)/\∀ i,i<n->∃ x,o (rb i)=some x:=by
 obtain ⟨d,⟨e,ex,a⟩,_⟩:=t.hd
 refine ⟨⟨_,a⟩,fun i b=>?_⟩
 obtain ⟨c,⟨e,ex,a⟩,_⟩:=t.row i b
 exact ⟨_,a⟩
def Mt.rowsV(t:Mt h g o bo rb n w M):RowsV h (some ⟨bo,0,none⟩) n w M:=by
 obtain ⟨j,r,e,q⟩:=t.hd
 refine ⟨j,r.slF t.sep.ole,e,fun i a=>?_⟩
 obtain ⟨c,f,d⟩:=q i a
 obtain ⟨k,m,l,b⟩:=t.row i a
 exact ⟨_,f,rfl,d,k,m.slF t.sep.ole,l,b.mono P8 t.sep.le⟩
def Mt.head(t:Mt h g o bo rb n w M){i:Nat}(hi:i<n):∃ c,w<=c/\o.cell? (aE ⟨bo,0,none⟩ (i*1))=some (.slice (some ⟨rb i,0,none⟩) w c):=by
 obtain ⟨f,r,e,q⟩:=t.hd
 obtain ⟨c,a,b⟩:=q i hi
 refine ⟨c,b,?_⟩
 have d:f[i]=⟨some ⟨rb i,0,none⟩,w,c⟩:=by
  rw [aI (by omega)] at a;exact dH a
 rw [E6,aM]
 exact r.cell (i:=i) (by omega) (j:=0) (by rw [d];rfl)
def Mt.elem(t:Mt h g o bo rb n w M){i j:Nat}(hi:i<n)(hj:j<w):∃ x:QV,NQ g x (M i j)/\o.cell? (aE (aE ⟨rb i,0,none⟩ (j*4)) 0)=some (.bool x.s)/\o.cell? (aE (aE ⟨rb i,0,none⟩ (j*4)) 1)=some (.slice x.A x.n x.c)/\o.cell? (aE (aE ⟨rb i,0,none⟩ (j*4)) 2)=some (.bool x.s2)/\o.cell? (aE (aE ⟨rb i,0,none⟩ (j*4)) 3)=some (.slice x.A2 x.n2 x.c2):=by
 obtain ⟨l,r,e,q⟩:=t.row i hi
 obtain ⟨x,a,f⟩:=q j hj
 have b:l[j]=x:=by
  rw [aI (by omega)] at a;exact dH a
 have cell:∀ k v,(enc x)[k]? = some v->o.cell? (aE (aE ⟨rb i,0,none⟩ (j*4)) k)=some v:=by
  intro k v d
  rw [E6,E6,aM]
  exact r.cell (i:=j) (by omega) (j:=k) (by rw [b];exact d)
 exact ⟨x,f,cell 0 _ rfl,cell 1 _ rfl,cell 2 _ rfl,cell 3 _ rfl⟩
def C0j(M:Nat->Nat->Rat)(i j:Nat)(q:Rat):Nat->Nat->Rat:=fun a b=>if a=i/\b=j then q else M a b
def Mt.store(t:Mt h g o bo rb n w M){i j:Nat}(hi:i<n)(hj:j<w){x:QV}{q:Rat}(hx:NQ g x q){K:Unit->aG->Prop}
 (k:∀ h' o',Mt h' g o' bo rb n w (C0j M i j q)->(∀ k,k≠rb i->o' k=o k)->K () h'):wpH prog (aU D4 (.pointer (some (aE ⟨rb i,0,none⟩ (j*4)))) x.v) K h:=by
 obtain ⟨L,r,e,H⟩:=t.row i hi
 rw [E6,aM]
 refine Sep.store (E:=inferInstanceAs (Enc QV)) Ef (v:=x.v) (y:=x) rfl t.sep r (i:=j) (by omega) rfl ?_
 intro h' o' J f D A
 refine k h' o' ⟨D,?_,t.nb,t.inj,fun a l=>?_⟩ (fun k u=>by rw [f,B8 _ _ u])
 ·obtain ⟨C,F,G,z⟩:=t.hd
  exact ⟨C,by rw [f];exact F.other (t.nb i hi).symm _,G,z⟩
 ·by_cases d:a=i
  ·subst d
   refine ⟨_,A,by simpa using e,?_⟩
   refine (Row.upd H (k:=j) (by omega) hx).congr fun b _=>?_
   unfold C0j
   by_cases c:b=j
   ·rw [iP c,iP ⟨rfl,c⟩]
   ·rw [iN c,iN (fun x=>c x.2)]
  ·obtain ⟨p,s,B,m⟩:=t.row a l
   refine ⟨p,by rw [f];exact s.other (fun e=>d (t.inj a i l hi e)) _,B,m.congr fun b _=>?_⟩
   unfold C0j
   rw [iN (fun x=>d x.1)]
def Mt.swap{P:cV}(t:Mt h g o bo rb n w M){i k:Nat}(hi:i<n)(hk:k<n){t':bW}(one:P.cellsOf t'=1/\(P.info? t').isSome=true){ci ck:Nat}(hci:o.cell? (aE ⟨bo,0,none⟩ (i*1))=some (.slice (some ⟨rb i,0,none⟩) w ci))(hck:o.cell? (aE ⟨bo,0,none⟩ (k*1))=some (.slice (some ⟨rb k,0,none⟩) w ck))(hcw:w<=ci)(hcw2:w<=ck){X:Unit->aG->Prop}
 (xx:∀ h1,(∀ {K:Unit->aG->Prop},(∀ h' o',Mt h' g o' bo (fun a=>rb (xch i k a)) n w (fun a=>M (xch i k a))->(∀ k,k≠bo->o' k=o k)->K () h')->wpH P (aU t' (.pointer (some (aE ⟨bo,0,none⟩ (i*1)))) (.slice (some ⟨rb k,0,none⟩) w ck)) K h1)->X () h1):
 wpH P (aU t' (.pointer (some (aE ⟨bo,0,none⟩ (k*1)))) (.slice (some ⟨rb i,0,none⟩) w ci)) X h:=by
 obtain ⟨N,r,e,q⟩:=t.hd
 rw [E6,aM]
 refine Sep.store (E:=inferInstanceAs (Enc HV)) one (v:=.slice (some ⟨rb i,0,none⟩) w ci) (y:=(⟨some ⟨rb i,0,none⟩,w,ci⟩:HV)) rfl t.sep r (i:=k) (by omega) rfl ?_
 intro h1 R T A O G
 refine xx h1 (fun {K} kk=>?_)
 rw [E6,aM]
 refine Sep.store (E:=inferInstanceAs (Enc HV)) one (v:=.slice (some ⟨rb k,0,none⟩) w ck) (y:=(⟨some ⟨rb k,0,none⟩,w,ck⟩:HV)) rfl O G (i:=i) (by simpa using (by omega:i<N.length)) rfl ?_
 intro s D S B H J
 have C:∀ b,b≠bo->D b=o b:=fun b f=>by rw [B,B8 _ _ f,A,B8 _ _ f]
 have j:∀ a,a<n->xch i k a<n:=fun a d=>Ro hi hk d
 have m:∀ a b,xch i k a=xch i k b->a=b:=fun a b h=>by rw [<- A5m (k:=i) (l:=k) (i:=a),h,A5m]
 refine kk s D ⟨H,⟨_,J,by simpa using e,fun a d=>?_⟩,fun a d=>t.nb _ (j a d),fun a b d f h=>m a b (t.inj _ _ (j a d) (j b f) h),fun a d=>?_⟩ C
 ·by_cases p:a=i
  ·subst p
   exact ⟨ck,by rw [bV (by simp;omega)];unfold xch;rw [iP rfl],hcw2⟩
  ·rw [bK (fun x=>p x.symm)]
   by_cases u:a=k
   ·subst u
    exact ⟨ci,by rw [bV (by omega)];unfold xch;rw [iN p,iP rfl],hcw⟩
   ·rw [bK (fun x=>u x.symm)]
    obtain ⟨c,h1,s⟩:=q a d
    exact ⟨c,by rw [h1];unfold xch;rw [iN p,iN u],s⟩
 ·obtain ⟨Q,L,ex,F⟩:=t.row _ (j a d)
  obtain ⟨e,z,f⟩:=L
  exact ⟨Q,⟨e,z,by rw [C _ (t.nb _ (j a d))];exact f⟩,ex,F⟩
end
def RWr(w:Nat):aG->HV->(Nat->Rat)->Prop:=fun h s f=>s.n=w/\w<=s.c/\bB NQr h s.A w f
def B7a(w:Nat):Mon (RWr w):=fun _ _ _ _ l i=>⟨i.1,i.2.1,i.2.2.mono P8 l⟩
def RowsV.of{h:aG}{A:Option aJ}{n w:Nat}{M:Nat->Nat->Rat}(r:bB (RWr w) h A n M):RowsV h A n w M:=r
def A76{α:Type}[E:Enc α]{P:cV}{t e ty:bW}{z:bY}{bytes:Nat}(st:SliceT P t e z E.default.size bytes){h g o:aG}(s:Sep h g o){A:Option aJ}{B:Option aJ}{d m:Nat}{ys:List α}(hm:m=ys.length)(hne:ys≠[])(sy:SlF h B ys)
 (hb:(2*ys.length+192)*bytes<=281474976710656) (hn:ys.length<=9223372036854775807) {K:VP}
 (x:∀ b c' h' g' o' y,o'=o.put b y->h b=none->g.le g'->Sep h' g' o'->ys.length<=c'->RowB o' b ys->K (.slice (some ⟨b,0,none⟩) m c') h'):wpH P (bI #[t,t] ty #[.slice A 0 0,.slice B m d]) K h:=by
 have p:PrivF h h e A 0 ([]:List α):=PrivF.nil h e A
 refine Y3 st p hm sy (by simpa using hb) (by simpa using hn) ?_
 intro A' c' h' g' l i
 rw [List.nil_append] at i
 obtain ⟨b,y,w,a,D,_,n⟩:=B58 i hne
 obtain ⟨q,f,r⟩:=s.after l
 have j:=i.2.1
 have k:h b=none:=by
  cases hx:h b with
  | none=>rfl
  | some u=>rw [l b u hx] at a;cases a
 subst D
 obtain ⟨C,ex,c⟩:=n
 rw [B9] at c
 have:=x b c' _ q (o.put b y) y rfl k f (r.new a y) j ⟨C,ex,by rw [B9];exact c⟩
 rw [w,List.nil_append,<- hm]
 exact this
section
variable {h:aG} {K:VP} {A:Option aJ} {n cap m w:Nat} {r c:Int} {ls:Nat->List UInt8} {M:Nat->Nat->Rat}
def B0d(rv':bB SSr h A n ls)(hn:n<=1000000)(hl:LL n ls)
 (hK1:∀ rows cols,MOk r c n ls rows cols->∀ b h',h.le h'->RowsV h' (some ⟨b,0,none⟩) rows cols (mtx (rvs ls) cols)->K (.tuple #[.slice (some ⟨b,0,none⟩) rows rows,.bool true]) h')
 (hK0:¬ Mx r c n ls->∀ h',h.le h'->K (.tuple #[.slice none 0 0,.bool false]) h'):aW prog A1g #[Xh r c A n cap] h K:=by
 refine B8t _ _ _ _ _ ?_
 unfold C4p
 have m:∀ (_:¬ A7h r c n),K (.tuple #[.slice none 0 0,.bool false]) h:=fun S=>hK0 (fun x=>S (Wx.1 x).1) h (B3 _)
 refine B6 (fun e=>m fun s=>by have:=s.1;omega) (fun h1=>B6 (fun e=>m fun s=>by have:=s.2.1;omega) (fun J=>B6 (fun e=>m fun s=>by have:=s.2.2.1;omega) (fun Z=>B6 (fun e=>m fun s=>by have:=s.2.2.2.1;omega) (fun h4=>?_))))
 have V:r*c<=64*64:=Int.mul_le_mul (by omega) (by omega) (by omega) (by omega)
 have E:0<=r*c:=Int.mul_nonneg (by omega) (by omega)
 have X:B4 (r*c)=r*c:=B7 (by omega) (by omega)
 rw [X]
 refine I3 (fun e=>m fun s=>e s.2.2.2.2) (fun h5=>?_)
 have R:A7h r c n:=⟨by omega,by omega,by omega,by omega,h5⟩
 refine A3m rv' hn hl (fun f b d own=>?_) (fun w h' l=>⟨_,_,_,_,rfl,hK0 (fun x=>w (Wx.1 x).2) h' l⟩)
 have mk:=MOk.of R f
 generalize r.toNat=rows at mk
 generalize c.toNat=cols at mk
 have:=mk.r1;have:=mk.r2;have:=mk.c1;have:=mk.c2
 obtain ⟨rfl,rfl,_,_,_,_,rfl,_⟩:=id mk
 have H:=own.vis P8
 refine ⟨_,_,_,_,rfl,K8 C4u (zx:=(⟨none,0,0⟩:HV)) rfl (by omega) (by omega) (by omega) (by omega) ?_⟩
 intro u t
 refine ⟨_,_,_,rfl,fun L p=>∃ k:Nat,k<=rows/\L=[I (k:Int)]/\OwnK (RWr cols) d p u rows k (mtx (rvs ls) cols),fun L _=>rows-(iAt L 0).toNat,⟨0,by omega,rfl,OwnK.zero t⟩,?_⟩
 rintro z p ⟨k,hk,N,g,o,xs,q,s,G,B,D⟩
 obtain rfl:=sI1 N
 refine B6 (fun W=>?_) (fun aa=>?_)
 ·have j:k<rows:=by omega
  have J:(k+1)*cols<=rows*cols:=aD _ j
  have Z:(k+1)*cols=k*cols+cols:=by rw [aK,aL]
  have F:rows*cols<=64*64:=aZ (by omega) (by omega)
  have C:B4 ((k:Int)+1)=((k+1:Nat):Int):=B7 (by omega) (by omega)
  have Q:B4 ((k:Int)*(cols:Int))=((k*cols:Nat):Int):=by rw [<- aT];exact S4 (by omega)
  have O:B4 (B4 ((k:Int)+1)*(cols:Int))=(((k+1)*cols:Nat):Int):=by rw [C,<- aT];exact S4 (by omega)
  rw [Q,O,C]
  refine ⟨⟨by omega,by omega⟩,⟨by omega,by simp only [aH];omega⟩,_,rfl,by omega,by omega,?_⟩
  simp only [aH]
  have T:(k+1)*cols-k*cols=cols:=by omega
  rw [T]
  have row:bB NQr d (J9 (some ⟨b,0,none⟩) (rows*cols) (k*cols) 4) cols (mtx (rvs ls) cols k):=H.cut (c:=rows*cols) (l:=k*cols) (k:=cols) (by omega) (aF _)
  refine OwnK.store (B7a cols) A06 (y:=(⟨J9 (some ⟨b,0,none⟩) (rows*cols) (k*cols) 4,cols,rows*cols-k*cols⟩:HV)) q (B3 _) s G (by simpa using B) D j rfl ⟨rfl,by show cols<=rows*cols-k*cols;omega,row.mono P8 q⟩ ?_
  intro h4 M
  exact ⟨⟨k+1,by omega,rfl,M⟩,by simp only [Cd];omega⟩
 ·have:k=rows:=by omega
  subst this
  have a:Own (RWr cols) d p u k (mtx (rvs ls) cols):=⟨g,o,xs,q,s,G,B,D⟩
  exact hK1 _ _ mk u p (Heap.le_trans own.le a.le) (RowsV.of (a.vis (B7a cols)))
def B0e{rcap:Nat}(rs:RowsV h A n w M)(hn:n<=1000000)(hw1:1<=w)(hw:w<=1000000)(hn1:1<=n)
 (hK:∀ h' g' o' bo rb c',h.le g'->Mt h' g' o' bo rb n w M->K (.slice (some ⟨bo,0,none⟩) n c') h'):aW prog A6v #[.slice A n rcap] h K:=by
 refine B8u _ _ _ ?_
 unfold C4q
 refine ⟨fun L hp=>∃ (k:Nat) (g o:aG) (F:List HV) (rb:Nat->Nat) (A':Option aJ) (c':Nat),k<=n/\L=[.slice A' k c',I (k:Int)]/\h.le g/\Sep hp g o/\OwnSl o J5 A' c' F/\F.length=k/\(∀ i,i<k->∃ c,F[i]? = some ⟨some ⟨rb i,0,none⟩,w,c⟩/\w<=c)/\(∀ i,i<k->A'≠some ⟨rb i,0,none⟩)/\(∀ i j,i<k->j<k->rb i=rb j->i=j)/\∀ i,i<k->∃ r:List QV,RowB o (rb i) r/\r.length=w/\Row NQr g r w (M i),fun L _=>n-(iAt L 1).toNat,
  ⟨0,h,Cp,[],fun _=>0,none,0,by omega,rfl,B3 _,Sep.refl h,OwnSl.nil,rfl,fun i m=>by omega,fun i m=>by omega,fun i j m=>by omega,fun i m=>by omega⟩,?_⟩
 rintro oA on oc z hp ⟨k,g,o,F,rb,A',c',hk,eL,S,s,Z,b,u,D,B,l⟩
 obtain ⟨⟨rfl,rfl,rfl⟩,rfl⟩:=sI2 eL
 refine B6 (fun an=>?_) (fun ao=>?_)
 ·have ai:on<n:=by omega
  refine La Px ?_
  intro be E
  have T:=s.vis E (.cells #[] D4)
  have Q:g.le (g.put be (.cells #[] D4)):=Heap.le_put _ (by
   cases t:g be with
   | none=>rfl
   | some y=>rw [s.le _ _ t] at E;cases E)
  have R:=Heap.le_trans S Q
  obtain ⟨a,sv,ea,N,H,hc,r,sx,J,qx⟩:=rs.at ai
  refine ⟨_,_,_,rfl,a,ea,by omega,by omega,_,_,_,B5 (Heap.le_trans R T.le) hc,?_⟩
  refine A76 Px T (ys:=r) (by omega) (by rintro rfl;simp at J;omega) (sx.mono (Heap.le_trans R T.le)) (by omega) (by omega) ?_
  intro p c2 h2 g2 o2 y eo G l2 s2 al X
  refine ⟨_,_,_,rfl,?_⟩
  have d:∀ q x,o q=some x->q≠p:=by
   rintro q x e rfl
   have:=T.ole q x e
   rw [this] at G;cases G
  have ah:OwnSl o2 J5 oA oc F:=Z.keep fun q x _ e=>by rw [eo,B8 _ _ (d q x e)];exact e
  have aa:oA≠some ⟨p,0,none⟩:=by
   intro hA
   rcases Z.2 with ⟨_,h0⟩|⟨b',am,C,ak,_⟩
   ·rw [hA] at h0;cases h0
   ·rw [hA] at C
    simp only [aQ,aY,and_true] at C
    exact d _ _ ak C.symm
  refine R2 (ty:=Ku) C4u s2 ah b.symm (y:=(⟨some ⟨p,0,none⟩,sv.n,c2⟩:HV)) rfl (by decide) (by rw [b];omega) (by rw [b];omega) ?_
  intro A3 c3 h3 g3 o3 l3 s3 ad kp
  have W:∀ i,i<on->∃ x,o (rb i)=some x:=fun i m=>by
   obtain ⟨r,⟨e,ex,hb⟩,_⟩:=l i m;exact ⟨_,hb⟩
  obtain ⟨e5,aj,ac⟩:=id X
  have k2:=kp p _ ac aa
  rw [b,wiS on (by omega)]
  have f:=Heap.le_trans Q (Heap.le_trans l2 l3)
  refine ⟨⟨on+1,g3,o3,_,fun i=>if i=on then p else rb i,A3,c3,by omega,rfl,Heap.le_trans S f,s3,ad,by rw [aC,b];rfl,fun i m=>?_,fun i m=>?_,fun i j m hj h=>?_,fun i m=>?_⟩,?_⟩
  ·show ∃ c,(F++[(⟨some ⟨p,0,none⟩,sv.n,c2⟩:HV)])[i]? = some ⟨some ⟨if i=on then p else rb i,0,none⟩,w,c⟩/\w<=c
   by_cases e:i=on
   ·subst e
    exact ⟨c2,by rw [cD (by omega),b,iP rfl,N];simp,by omega⟩
   ·obtain ⟨c,h1,h2⟩:=u i (by omega)
    exact ⟨c,by rw [bF (by omega),iN e];exact h1,h2⟩
  ·show A3≠some ⟨if i=on then p else rb i,0,none⟩
   by_cases e:i=on
   ·rw [iP e];exact k2.2
   ·rw [iN e]
    obtain ⟨x,t⟩:=W i (by omega)
    exact (kp (rb i) x (by rw [eo,B8 _ _ (d _ _ t)];exact t) (D i (by omega))).2
  ·have h':(if i=on then p else rb i)=(if j=on then p else rb j):=h
   by_cases N:i=on
   ·by_cases H:j=on
    ·omega
    ·rw [iP N,iN H] at h'
     obtain ⟨x,t⟩:=W j (by omega)
     exact absurd h'.symm (d _ _ t)
   ·by_cases H:j=on
    ·rw [iN N,iP H] at h'
     obtain ⟨x,t⟩:=W i (by omega)
     exact absurd h' (d _ _ t)
    ·rw [iN N,iN H] at h'
     exact B i j (by omega) (by omega) h'
  ·show ∃ r:List QV,RowB o3 (if i=on then p else rb i) r/\_
   by_cases e:i=on
   ·subst e
    rw [iP rfl]
    exact ⟨r,⟨e5,aj,k2.1⟩,J,qx.mono P8 (Heap.le_trans S f)⟩
   ·rw [iN e]
    obtain ⟨ys,⟨ey,V,O⟩,af,qy⟩:=l i (by omega)
    refine ⟨ys,⟨ey,V,?_⟩,af,qy.mono P8 f⟩
    exact (kp (rb i) _ (by rw [eo,B8 _ _ (d _ _ O)];exact O) (D i (by omega))).1
  ·show n-((on+1:Nat):Int).toNat<n-((on:Nat):Int).toNat
   omega
 ·have ae:on=n:=by omega
  subst ae
  obtain ⟨bo,rfl,ag⟩:=Z.rowB (by rintro rfl;simp at b;omega)
  exact hK hp g o bo rb oc S ⟨s,⟨F,ag,b,u⟩,fun i m e=>D i m (by rw [e]),B,l⟩
end
section
variable {α:Type} [E:Enc α]
def OwnSl.app{P:cV}{t e ty:bW}{z:bY}{bytes:Nat}(st:SliceT P t e z E.default.size bytes){h g o:aG}{A:Option aJ}{c:Nat}{xs:List α}(s:Sep h g o)(w:OwnSl o e A c xs){B:Option aJ}{d m n:Nat}{ys:List α}(hxn:n=xs.length)(hm:m=ys.length)(hne:ys≠[])(sy:SlF h B ys)(hb:(2*(xs.length+ys.length)+192)*bytes<=281474976710656)(hn:xs.length+ys.length<=9223372036854775807){K:VP}
 (x:∀ A' c' h' g' o',g.le g'->Sep h' g' o'->OwnSl o' e A' c' (xs++ys)->(∀ k u,o k=some u->A≠some ⟨k,0,none⟩->o' k=some u/\A'≠some ⟨k,0,none⟩)->K (.slice A' (xs.length+m) c') h'):
 wpH P (bI #[t,t] ty #[.slice A n c,.slice B m d]) K h:=by
 subst hxn
 obtain ⟨gb,p,F⟩:=w.priv s
 refine Y3 st p hm sy hb hn ?_
 intro A' c' h' g' Z S
 rw [aC,<- hm]
 have G:∀ k u,h k=some u->A≠some ⟨k,0,none⟩->g' k=some u:=by
  intro k u a hne
  exact Z k u (F k u a hne)
 have O:∀ k u,g k=some u->A≠some ⟨k,0,none⟩:=by
  intro k u a q
  rcases w.2 with ⟨_,V⟩|⟨f,l,i,j,_⟩
  ·rw [q] at V;cases V
  ·rw [q] at i
   simp only [aQ,aY,and_true] at i
   subst i
   rw [s.dis k _ j] at a;cases a
 rcases S.2.2 with ⟨aa,_⟩|⟨f,l,i,j,J,ha,ht⟩
 ·exfalso
  have:=S.2.1
  rw [aC] at this
  have:ys.length≠0:=fun h=>hne (cP h)
  omega
 ·subst i
  let o':aG:=fun k=>if k=f then some (.cells (cM l) e) else if A=some ⟨k,0,none⟩ then none else o k
  have T:o' f=some (.cells (cM l) e):=by show (if f=f then _ else _)=_;rw [iP rfl]
  have M:∀ k,k≠f->A≠some ⟨k,0,none⟩->o' k=o k:=fun k H C=>by show (if k=f then _ else if _ then _ else _)=_;rw [iN H,iN C]
  have R:∀ k,k≠f->A=some ⟨k,0,none⟩->o' k=none:=fun k H C=>by show (if k=f then _ else if _ then _ else _)=_;rw [iN H,iP C]
  let g2:aG:=fun k=>match o' k with|some _=>none|none=>h' k
  have gs:∀ k u,o' k=some u->g2 k=none:=fun k u a=>by show (match o' k with|some _=>none|none=>h' k)=_;rw [a]
  have W:∀ k,o' k=none->g2 k=h' k:=fun k a=>by show (match o' k with|some _=>none|none=>h' k)=_;rw [a]
  have r:∀ k u,k≠f->g' k=some u->h' k=some u:=fun k u H a=>by rw [J,B8 _ _ H];exact a
  have L:∀ k u,o k=some u->A≠some ⟨k,0,none⟩->k≠f:=by
   rintro k u a C rfl
   have:=G k u (s.own k u a) C
   rw [j] at this;cases this
  refine x _ c' h' g2 o' (fun k u a=>?_) ⟨fun k u a=>?_,fun k a=>(W k a).symm,gs⟩ ⟨S.2.1,.inr ⟨f,l,rfl,T,ha,ht⟩⟩ (fun k u a C=>?_)
  ·have Q:o k=none:=by
    cases ho:o k with
    | none=>rfl
    | some y=>rw [s.dis k y ho] at a;cases a
   have q:=O k u a
   have N:=G k u (s.le k u a) q
   have D:k≠f:=by rintro rfl;rw [j] at N;cases N
   rw [W k (by rw [M k D q];exact Q)]
   exact r k u D N
  ·by_cases b:k=f
   ·subst b
    rw [T] at a;cases a
    rw [J,B9]
   ·by_cases q:A=some ⟨k,0,none⟩
    ·rw [R k b q] at a;cases a
    ·rw [M k b q] at a
     exact r k u b (G k u (s.own k u a) q)
  ·have b:=L k u a C
   refine ⟨by rw [M k b C];exact a,fun X=>b ?_⟩
   simp only [aQ,aY,and_true] at X
   exact X.symm
end
section
variable {h:aG} {K:VP} {A:Option aJ} {n cap m w:Nat} {M:Nat->Nat->Rat}
end
abbrev ecE(M:Nat->Nat->Rat)(n c:Nat):ES:=A87 n ⟨M,[],1⟩ c
def B2g{n:Nat}{s:ES}{c:Nat}(h:n<=(A87 n s c).cs.length):∀ d,A87 n s (c+d)=A87 n s c:=by
 intro d
 induction d with
 | zero=>rfl
 | succ d ih=>
  show Fp n (c+d) (A87 n s (c+d))=_
  rw [ih]
  unfold Fp
  rw [iN (by omega)]
def Ls(M:Nat->Nat->Rat)(n:Nat):∀ c,(ecE M n c).cs.length<=c/\(ecE M n c).cs.length<=n:=by
 intro c
 induction c with
 | zero=>exact ⟨aF _,bN _⟩
 | succ c ih=>
  show (Fp n c (ecE M n c)).cs.length<=c+1/\(Fp n c (ecE M n c)).cs.length<=n
  unfold Fp
  split
  ·split
   ·show ((ecE M n c).cs++[c]).length<=c+1/\((ecE M n c).cs++[c]).length<=n
    rw [aC]
    exact ⟨Nat.succ_le_succ ih.1,by simp only [List.length_cons,List.length_nil];omega⟩
   ·show (ecE M n c).cs.length<=c+1/\_
    exact ⟨cU ih.1,ih.2⟩
  ·exact ⟨cU ih.1,ih.2⟩
def B41(M:Nat->Nat->Rat)(n c:Nat):Rat:=if (ecE M n c).cs.length<c then 0 else (ecE M n c).det
abbrev qc(w:QV):List bY:=[.bool w.s,.slice w.A w.n w.c,.bool w.s2,.slice w.A2 w.n2 w.c2]
def C0y{w:QV}{a b:Bool}{A B:Option aJ}{n c n' c':Nat}{l l':List bY}(h:(.bool a:bY) :: .slice A n c :: .bool b :: .slice B n' c'::l= .bool w.s :: .slice w.A w.n w.c :: .bool w.s2 :: .slice w.A2 w.n2 w.c2::l'):(⟨a,A,n,c,b,B,n',c'⟩:QV)=w/\l=l':=by
 simp only [bH,cF,bJ] at h
 obtain ⟨rfl,⟨rfl,rfl,rfl⟩,rfl,⟨rfl,rfl,rfl⟩,h⟩:=h
 exact ⟨rfl,h⟩
def Xd(bo:Nat)(rb:Nat->Nat)(n:Nat)(A:Option aJ):Prop:=A≠some ⟨bo,0,none⟩/\∀ i,i<n->A≠some ⟨rb i,0,none⟩
section
variable {g o h11 h14 h15 hp2:aG} {bo n w r c i B:Nat} {rb:Nat->Nat} {R:Nat->Nat->Rat} {x:QV} {q:Rat} {Invv Invv3:LP} {muv muv3:LN}
def C5m(t:Mt h15 g o bo rb n w R)(hi:i<n)(hr:r<n)(hir:i≠r)(hcw:c<=w)(hn:n<=10000)(hw:w<=10000)(ix:NQ g x q)(s1:∀ b,b<w->Sz B (R i b))(s2:∀ b,b<w->Sz (B+B) (R r b))(s3:Sz B q)(hB:B*7<=100000000)
 (fin:∀ h' g' o',g.le g'->Mt h' g' o' bo rb n w (fun a b=>if a=i/\c<=b then R i b-q*R r b else R a b)->(∀ b,(∀ i,i<n->b≠rb i)->o' b=o b)->Invv3 [I (B4 ((i:Int)+1))] h'/\muv3 [I (B4 ((i:Int)+1))] h'<muv3 [I (i:Int)] h14):
 Lx prog (some ⟨bo,0,none⟩) n r (c:Int) Invv3 muv3 (i:Int) x.s x.A x.n x.c x.s2 x.A2 x.n2 x.c2 h15 h14:=by
 unfold Lx
 refine ⟨fun L hq=>∃ (k:Nat) (g' o':aG),c<=k/\k<=w/\L=[I (k:Int)]/\g.le g'/\Mt hq g' o' bo rb n w (fun a b=>if a=i/\c<=b/\b<k then R i b-q*R r b else R a b)/\(∀ b,(∀ i,i<n->b≠rb i)->o' b=o b),fun L _=>w-(iAt L 0).toNat,⟨c,g,o,aF _,hcw,rfl,B3 _,t.congr (fun a b _ _=>by rw [iN (by omega)]),fun _ _=>rfl⟩,?_⟩
 rintro z N ⟨k,g6,o6,J,W,F,M,e,u⟩
 obtain rfl:=sI1 F
 obtain ⟨c6,ac,S⟩:=e.head hi
 have l:=e.sep.cell S
 refine ⟨_,rfl,by omega,by omega,_,_,_,l,B6 (fun af=>?_) (fun ag=>?_)⟩
 ·have d:k<w:=by omega
  obtain ⟨c7,ad,H⟩:=e.head hr
  obtain ⟨y,V,y0,y1,y2,y3⟩:=e.elem hi d
  obtain ⟨v,T,v0,v1,v2,v3⟩:=e.elem hr d
  rw [iN (by omega)] at V
  rw [iN (fun x=>hir x.1.symm)] at T
  refine ⟨_,rfl,by omega,by omega,_,_,_,l,_,rfl,by omega,by omega,_,_,_,l,_,rfl,by omega,by omega,_,_,_,_,_,_,_,_,e.sep.cell y0,e.sep.cell y1,e.sep.cell y2,e.sep.cell y3,_,rfl,by omega,by omega,_,_,_,e.sep.cell H,_,rfl,by omega,by omega,_,_,_,_,_,_,_,_,e.sep.cell v0,e.sep.cell v1,e.sep.cell v2,e.sep.cell v3,?_⟩
  refine e.sep.call (Nl (ix.mono M) T (s3.mono (show B<=B+B by omega)) (s2 k d) (by omega) ?_)
  intro w7 g7 E i7 X f
  have Z:=e.next f E
  refine ⟨_,_,_,_,_,_,_,_,rfl,e.sep.le_le f E,?_⟩
  refine f.call (A39 (V.mono E) i7 ((s1 k d).mono (show B<=B+(B+B) by omega)) (s3.mul (s2 k d)) (by omega) ?_)
  intro w8 g8 O i8 aa m
  have t8:=Z.next m O
  refine ⟨_,_,_,_,_,_,_,_,rfl,f.le_le m O,_,rfl,by omega,by omega,?_⟩
  refine t8.store hi d (x:=w8) i8 ?_
  intro ae G Q p
  rw [wiS k (by omega)]
  refine ⟨⟨k+1,g8,G,by omega,by omega,rfl,Heap.le_trans M (Heap.le_trans E O),Q.congr (fun a b _ _=>?_),fun b D=>by rw [p b (D _ hi),u b D]⟩,by simp only [Cd];omega⟩
  show (if a=i/\b=k then R i k-q*R r k else if a=i/\c<=b/\b<k then R i b-q*R r b else R a b)=if a=i/\c<=b/\b<k+1 then R i b-q*R r b else R a b
  by_cases j:a=i/\b=k
  ·obtain ⟨rfl,rfl⟩:=j
   rw [iP ⟨rfl,rfl⟩,iP ⟨rfl,J,by omega⟩]
  ·rw [iN j]
   by_cases C:a=i/\c<=b/\b<k
   ·rw [iP C,iP ⟨C.1,C.2.1,by omega⟩]
   ·rw [iN C,iN (by omega)]
 ·have d:k=w:=by omega
  subst d
  refine fin N g6 o6 M (e.congr (fun a b _ D=>?_)) u
  by_cases j:a=i/\c<=b
  ·rw [iP j,iP ⟨j.1,j.2,D⟩]
  ·rw [iN j,iN (fun x=>j ⟨x.1,x.2.1⟩)]
def C5n{pA:Option aJ}{pc:Nat}{d0 d2 e0 e2:Bool}{d1A d3A e1A e3A:Option aJ}{d1n d1c d3n d3c e1n e1c e3n e3c:Nat}(t:Mt h11 g o bo rb n w (fun a b=>if a=r then R r b/R r c else R a b))(hr:r<n)(hcw:c<w)(hn:n<=10000)(hw:w<=10000)(hB1:1<=B)(hR:∀ a b,a<n->b<w->Sz B (R a b))(hB:B*7<=100000000)
 (fin:∀ h' g' o',g.le g'->Mt h' g' o' bo rb n w (elimE R r c)->(∀ b,(∀ i,i<n->b≠rb i)->o' b=o b)->wpH prog (cH Fn 1 #[(0,I (c:Int))]) (fun v hp20=>∃ (t167A:Option aJ) (t167n:Nat) (t167c:Nat),v= .slice t167A t167n t167c/\wpH prog (bI #[Fn,Fn] Fn #[.slice pA r pc,.slice t167A t167n t167c]) (fun v1 hp21=>∃ (t168A:Option aJ) (t168n:Nat) (t168c:Nat),v1= .slice t168A t168n t168c/\Invv [.slice t168A t168n t168c,I (B4 ((c:Int)+(1:Int))),.bool e0,.slice e1A e1n e1c,.bool e2,.slice e3A e3n e3c] hp21/\muv [.slice t168A t168n t168c,I (B4 ((c:Int)+(1:Int))),.bool e0,.slice e1A e1n e1c,.bool e2,.slice e3A e3n e3c] hp21<muv [.slice pA r pc,I (c:Int),.bool d0,.slice d1A d1n d1c,.bool d2,.slice d3A d3n d3c] hp2) hp20) h'):
 Gx prog (some ⟨bo,0,none⟩) n Invv muv pA r pc (c:Int) d0 d1A d1n d1c d2 d3A d3n d3c e0 e1A e1n e1c e2 e3A e3n e3c hp2 h11:=by
 unfold Gx
 refine ⟨fun L m=>∃ (i:Nat) (g' o':aG),i<=n/\L=[I (i:Int)]/\g.le g'/\Mt m g' o' bo rb n w (fun a b=>if a=r then R r b/R r c else if a<i then elimE R r c a b else R a b)/\(∀ b,(∀ i,i<n->b≠rb i)->o' b=o b),fun L _=>n-(iAt L 0).toNat,⟨0,g,o,by omega,rfl,B3 _,t.congr (fun a b _ l=>?_),fun _ _=>rfl⟩,?_⟩
 ·by_cases d:a=r
  ·rw [iP d,iP d]
  ·rw [iN d,iN d,iN (by omega)]
 rintro z y ⟨i,N,S,hi,J,D,k,p⟩
 obtain rfl:=sI1 J
 have q:B4 ((i:Int)+1)=((i+1:Nat):Int):=by rw [B7]<;>omega
 refine B6 (fun O=>?_) (fun Q=>?_)
 ·have j:i<n:=by omega
  obtain ⟨c5,aa,E⟩:=k.head j
  obtain ⟨x,F,x0,x1,x2,T⟩:=k.elem j hcw
  refine ⟨_,rfl,by omega,by omega,_,_,_,k.sep.cell E,_,rfl,by omega,by omega,_,_,_,_,_,_,_,_,k.sep.cell x0,k.sep.cell x1,k.sep.cell x2,k.sep.cell T,?_⟩
  have same:∀ (m:i=r\/R i c=0),(∃ (i':Nat) (g' o':aG),i'<=n/\[I (B4 ((i:Int)+1))]=[I (i':Int)]/\g.le g'/\Mt y g' o' bo rb n w (fun a b=>if a=r then R r b/R r c else if a<i' then elimE R r c a b else R a b)/\(∀ b,(∀ i,i<n->b≠rb i)->o' b=o b))/\n-(iAt [I (B4 ((i:Int)+1))] 0).toNat<n-(iAt [I (i:Int)] 0).toNat:=by
   intro m
   rw [q]
   refine ⟨⟨i+1,N,S,by omega,rfl,D,k.congr (fun a b _ _=>?_),p⟩,by simp only [Cd];omega⟩
   by_cases d:a=r
   ·rw [iP d,iP d]
   ·rw [iN d,iN d]
    by_cases s:a<i
    ·rw [iP s,iP (by omega)]
    ·rw [iN s]
     by_cases M:a<i+1
     ·rw [iP M]
      have:a=i:=by omega
      subst this
      rcases m with m|m
      ·exact absurd m d
      ·unfold elimE
       rw [iN d,iP (.inl m)]
     ·rw [iN M]
  refine D8 (fun he=>same (.inl (by omega))) (fun he=>?_)
  have f:i≠r:=by omega
  rw [iN f,iN (aS i)] at F
  refine Cb (F.mono k.sep.le) ⟨_,rfl,D8 (fun e=>?_) (fun e=>?_)⟩
  ·exact same (.inr (by rw [dL] at e;exact Rat.num_eq_zero.1 e))
  have C:R i c≠0:=fun h=>e (by rw [h];rfl)
  refine C5m (B:=B) k j hr f (by omega) hn hw F (fun b l=>by rw [iN f,iN (aS i)];exact hR i b j l) (fun b l=>by rw [iP rfl];exact (hR r b hr l).div (hR r c hr hcw) hB1) (hR i c j hcw) hB ?_
  intro X V o6 W t6 H
  rw [q]
  refine ⟨⟨i+1,V,o6,by omega,rfl,Heap.le_trans D W,t6.congr (fun a b _ l=>?_),fun b l=>by rw [H b l,p b l]⟩,by simp only [Cd];omega⟩
  by_cases d:a=i
  ·subst d
   rw [iN f,iP (show a<a+1 by omega)]
   unfold elimE
   rw [iN f]
   by_cases u:c<=b
   ·have G:¬ (R a c=0\/b<c):=by
     rintro (h|h)
     ·exact C h
     ·omega
    rw [iP ⟨rfl,u⟩,iN f,iN (aS a),iP rfl,iN G]
   ·rw [iN (fun x=>u x.2),iN f,iN (aS a),iP (.inr (by omega))]
  ·rw [iN (fun x=>d x.1)]
   by_cases A:a=r
   ·rw [iP A,iP A]
   ·rw [iN A,iN A]
    by_cases s:a<i
    ·rw [iP s,iP (by omega)]
    ·rw [iN s,iN (by omega)]
 ·have j:i=n:=by omega
  subst j
  exact fin y N S D (k.congr (fun a b Z _=>by
   by_cases d:a=r
   ·rw [iP d];unfold elimE;rw [iP d]
   ·rw [iN d,iP Z])) p
def C5o{h10:aG}{xf:QV}{pA:Option aJ}{pc:Nat}{d0 d2 e0 e2:Bool}{d1A d3A e1A e3A:Option aJ}{d1n d1c d3n d3c e1n e1c e3n e3c:Nat}(t:Mt h10 g o bo rb n w R)(hr:r<n)(hcw:c<w)(hn:n<=10000)(hw:w<=10000)(ixf:NQ g xf (R r c))(hR:∀ b,b<w->Sz B (R r b))(hB:B*7<=100000000)
 (fin:∀ h' g' o',g.le g'->Mt h' g' o' bo rb n w (fun a b=>if a=r then R r b/R r c else R a b)->(∀ b,(∀ i,i<n->b≠rb i)->o' b=o b)->Gx prog (some ⟨bo,0,none⟩) n Invv muv pA r pc (c:Int) d0 d1A d1n d1c d2 d3A d3n d3c e0 e1A e1n e1c e2 e3A e3n e3c hp2 h'):
 Ly prog (some ⟨bo,0,none⟩) n Invv muv pA r pc (c:Int) d0 d1A d1n d1c d2 d3A d3n d3c xf.s xf.A xf.n xf.c xf.s2 xf.A2 xf.n2 xf.c2 e0 e1A e1n e1c e2 e3A e3n e3c h10 hp2:=by
 unfold Ly
 refine ⟨fun L T=>∃ (j:Nat) (g' o':aG),j<=w/\L=[I (j:Int)]/\g.le g'/\Mt T g' o' bo rb n w (fun a b=>if a=r/\b<j then R r b/R r c else R a b)/\(∀ b,(∀ i,i<n->b≠rb i)->o' b=o b),fun L _=>w-(iAt L 0).toNat,⟨0,g,o,by omega,rfl,B3 _,t.congr (fun a b _ _=>by rw [iN (by omega)]),fun _ _=>rfl⟩,?_⟩
 rintro z G ⟨j,Z,O,hj,F,y,e,k⟩
 obtain rfl:=sI1 F
 obtain ⟨ae,J,E⟩:=e.head hr
 have f:=e.sep.cell E
 refine ⟨_,rfl,by omega,by omega,_,_,_,f,B6 (fun aa=>?_) (fun ad=>?_)⟩
 ·have d:j<w:=by omega
  obtain ⟨x,M,x0,x1,V,N⟩:=e.elem hr d
  rw [iN (by omega)] at M
  refine ⟨_,rfl,by omega,by omega,_,_,_,f,_,rfl,by omega,by omega,_,_,_,f,_,rfl,by omega,by omega,_,_,_,_,_,_,_,_,e.sep.cell x0,e.sep.cell x1,e.sep.cell V,e.sep.cell N,?_⟩
  refine e.sep.call (A3h M (ixf.mono y) (hR _ d) (hR _ hcw) (by omega) ?_)
  intro Q S D X W m
  refine ⟨_,_,_,_,_,_,_,_,rfl,e.sep.le_le m D,_,rfl,by omega,by omega,?_⟩
  have t5:=e.next m D
  refine t5.store hr d (x:=Q) X ?_
  intro ac u C l
  rw [wiS j (by omega)]
  refine ⟨⟨j+1,S,u,by omega,rfl,Heap.le_trans y D,C.congr (fun a b _ _=>?_),fun b q=>by rw [l b (q _ hr),k b q]⟩,by simp only [Cd];omega⟩
  show (if a=r/\b=j then R r j/R r c else if a=r/\b<j then R r b/R r c else R a b)=if a=r/\b<j+1 then R r b/R r c else R a b
  by_cases H:a=r/\b=j
  ·obtain ⟨rfl,rfl⟩:=H
   rw [iP ⟨rfl,rfl⟩,iP ⟨rfl,by omega⟩]
  ·rw [iN H]
   by_cases e2:a=r/\b<j
   ·rw [iP e2,iP ⟨e2.1,by omega⟩]
   ·rw [iN e2,iN (by omega)]
 ·have d:j=w:=by omega
  subst d
  refine fin G Z O y (e.congr (fun a b _ q=>?_)) k
  by_cases p:a=r
  ·rw [iP ⟨p,q⟩,iP p]
  ·rw [iN (fun x=>p x.1),iN p]
end
section
variable {g o h5 h9 hp2:aG} {bo n w r c B k:Nat} {rb:Nat->Nat} {R:Nat->Nat->Rat} {q:Rat} {Invv:LP} {muv:LN} {pA:Option aJ} {pc:Nat} {wd wd0:QV} {l:List Nat}
def C5p(hl:l.length=r)(t:Mt h9 g o bo rb n w R)(ow:OwnSl o I4 pA pc (zs l))(ap:Xd bo rb n pA)(iq:NQ g wd q)(hr:r<n)(hcw:c<w)(hn:n<=10000)(hw:w<=10000)(hB1:1<=B)(hq:Sz B q)(hR:∀ a b,a<n->b<w->Sz B (R a b))(hB:B*7<=100000000)
 (fin:∀ h' g' o' A' c' wd',g.le g'->Mt h' g' o' bo rb n w (elimE R r c)->OwnSl o' I4 A' c' (zs (l++[c]))->Xd bo rb n A'->NQ g' wd' (q*R r c)->Invv (.slice A' (r+1) c'::I (B4 ((c:Int)+1))::qc wd') h'/\muv (.slice A' (r+1) c'::I (B4 ((c:Int)+1))::qc wd') h'<muv (.slice pA r pc::I (c:Int)::qc wd0) hp2):
 Mc prog (some ⟨bo,0,none⟩) n Invv muv pA r pc (c:Int) wd0.s wd0.A wd0.n wd0.c wd0.s2 wd0.A2 wd0.n2 wd0.c2 wd.s wd.A wd.n wd.c wd.s2 wd.A2 wd.n2 wd.c2 hp2 h9:=by
 unfold Mc
 obtain ⟨ch,aa,kh⟩:=t.head hr
 obtain ⟨xf,m,F,S,u,O⟩:=t.elem hr hcw
 refine ⟨_,rfl,by omega,by omega,_,_,_,t.sep.cell kh,_,rfl,by omega,by omega,_,_,_,_,_,_,_,_,t.sep.cell F,t.sep.cell S,t.sep.cell u,t.sep.cell O,?_⟩
 refine t.sep.call (Nl iq m hq (hR _ _ hr hcw) (by omega) ?_)
 intro G g3 Q i4 ac z
 refine ⟨_,_,_,_,_,_,_,_,rfl,?_⟩
 refine C5o (B:=B) (t.next z Q) hr hcw hn hw (m.mono Q) (fun b p=>hR _ b hr p) hB ?_
 intro ae g4 o4 V t4 D
 refine C5n (B:=B) t4 hr hcw hn hw hB1 hR hB ?_
 intro ad g5 X W H j
 have L:∀ b,(∀ i,i<n->b≠rb i)->X b=o b:=fun b p=>by rw [j b p,D b p]
 have T:OwnSl X I4 pA pc (zs l):=ow.keep fun b x hA e=>by rw [L b (fun i hi e=>ap.2 i hi (by rw [<- e];exact hA))];exact e
 have d:(zs l).length=r:=by simp [hl]
 refine R2 (ty:=Fn) C32 H.sep T d.symm (y:=((c:Nat):Int)) rfl (by decide) (by rw [d];omega) (by rw [d];omega) ?_
 intro A6 Z M g6 o6 J s6 E f
 obtain ⟨⟨y0,N⟩,C⟩:=H.own
 have t6:=H.keep s6 J (fun k x e hk=>by
  rcases hk with rfl|⟨q,hq,rfl⟩
  ·exact (f _ _ e ap.1).1
  ·exact (f _ _ e (ap.2 q hq)).1)
 rw [d]
 refine fin M g6 o6 A6 Z G (Heap.le_trans Q (Heap.le_trans V (Heap.le_trans W J))) t6 (by simpa [zs] using E) ⟨(f _ _ N ap.1).2,fun q hq=>?_⟩ (i4.mono (Heap.le_trans V (Heap.le_trans W J)))
 obtain ⟨x,hx⟩:=C q hq
 exact (f _ _ hx (ap.2 q hq)).2
def C5q(hl:l.length=r)(t:Mt h5 g o bo rb n w R)(ow:OwnSl o I4 pA pc (zs l))(ap:Xd bo rb n pA)(iq:NQ g wd0 q)(hr:r<n)(hk:k<=n)(hcw:c<w)(hn:n<=10000)(hw:w<=10000)(hB1:1<=B)(hq:Sz B q)(hR:∀ a b,a<n->b<w->Sz B (R a b))(hB:B*7<=100000000)
 (fin0:k=n->Invv (.slice pA r pc::I (B4 ((c:Int)+1))::qc ⟨false,none,0,0,false,none,0,0⟩) h5/\muv (.slice pA r pc::I (B4 ((c:Int)+1))::qc ⟨false,none,0,0,false,none,0,0⟩) h5<muv (.slice pA r pc::I (c:Int)::qc wd0) hp2)
 (fin:k<n->∀ h' g' o' rb' A' c' wd',g.le g'->Mt h' g' o' bo rb' n w (elimE (fun i=>R (xch r k i)) r c)->OwnSl o' I4 A' c' (zs (l++[c]))->Xd bo rb' n A'->NQ g' wd' ((if k=r then q else -q)*R k c)->Invv (.slice A' (r+1) c'::I (B4 ((c:Int)+1))::qc wd') h'/\muv (.slice A' (r+1) c'::I (B4 ((c:Int)+1))::qc wd') h'<muv (.slice pA r pc::I (c:Int)::qc wd0) hp2):
 Md prog (some ⟨bo,0,none⟩) n Invv muv pA r pc (c:Int) wd0.s wd0.A wd0.n wd0.c wd0.s2 wd0.A2 wd0.n2 wd0.c2 (k:Int) hp2 h5:=by
 unfold Md
 refine D8 (fun e=>fin0 (by omega)) (fun ai=>?_)
 have f:k<n:=by omega
 have z:∀ i,i<n->xch r k i<n:=fun i S=>Ro hr f S
 have xk:xch r k r=k:=Tg _ _
 refine ⟨fun L hq=>∃ (C Q:aG) (d:Nat->Nat) (wd:QV),L=qc wd/\g.le C/\Mt hq C Q bo d n w (fun i=>R (xch r k i))/\OwnSl Q I4 pA pc (zs l)/\Xd bo d n pA/\NQ C wd (if k=r then q else -q),?_,?_⟩
 ·refine I3 (fun ah=>?_) (fun ag=>?_)
  ·have p:k≠r:=by omega
   obtain ⟨c1,X,k1⟩:=t.head hr
   obtain ⟨c2,E,k2⟩:=t.head f
   refine ⟨_,rfl,by omega,by omega,_,_,_,t.sep.cell k1,_,rfl,by omega,by omega,_,_,_,t.sep.cell k2,_,rfl,by omega,by omega,?_⟩
   refine t.swap hr f A06 k1 k2 X E (fun h6 J=>⟨_,rfl,by omega,by omega,J (fun h7 o7 t7 af=>?_)⟩)
   refine t7.sep.call (A3b iq (fun y i3 h8 s8=>⟨_,_,_,_,_,_,_,_,rfl,?_⟩))
   refine ⟨g,o7,_,y,rfl,B3 _,t7.next s8 (B3 _),ow.keep fun b x hA e=>?_,⟨ap.1,fun i S=>ap.2 _ (z i S)⟩,by rw [iN p];exact i3⟩
   rw [af b (fun e=>ap.1 (by rw [<- e];exact hA))];exact e
  ·have m:k=r:=by omega
   refine ⟨g,o,rb,wd0,rfl,B3 _,t.congr (fun i j _ _=>?_),ow,ap,by rw [iP m];exact iq⟩
   rw [m];unfold xch;grind
 rintro e0 ad F M e2 O aa G h9 ⟨C,Q,d,y,ae,H,t2,ac,W,D⟩
 obtain ⟨rfl,_⟩:=C0y ae
 have N:Sz B (if k=r then q else -q):=by
  split
  ·exact hq
  ·exact hq.neg
 refine C5p (wd:=⟨e0,ad,F,M,e2,O,aa,G⟩) hl t2 ac W D hr hcw hn hw hB1 N (fun a b ha hb=>hR _ b (z a ha) hb) hB ?_
 intro h' g' o' A' c' wd' T t' V Z u
 rw [xk] at u
 exact fin f h' g' o' d A' c' wd' (Heap.le_trans H T) t' V Z u
end
section
variable {h:aG} {K:VP} {A:Option aJ} {n cap m w:Nat} {M:Nat->Nat->Rat}
def Xk{cols nq:Nat}(rs:RowsV h A n w M)(hn1:1<=n)(hn:n<=10000)(hw1:1<=w)(hw:w<=10000)(hc:cols<=w)(hm1:1<=m)(hs:∀ i j,i<n->j<w->Sz m (M i j))(hnq:∀ c,c<cols->(ecE M n c).cs.length<nq)(hm:7^nq*m<=100000000)
 (hK:∀ h' g' o' bo rb c' A' cap' wd,h.le g'->Mt h' g' o' bo rb n w (ecE M n cols).R->OwnSl o' I4 A' cap' (zs (ecE M n cols).cs)->Xd bo rb n A'->NQ g' wd (B41 M n cols)->
  K (.tuple #[.slice (some ⟨bo,0,none⟩) n c',.slice A' (ecE M n cols).cs.length cap',wd.v]) h'):aW prog Qw #[.slice A n cap,I (cols:Int)] h K:=by
 refine A7o _ _ _ _ ?_
 unfold A9j
 refine B0e rs (by omega) hw1 (by omega) hn1 ?_
 intro h1 g1 o1 bo ac c0 aj t1
 refine ⟨_,_,_,rfl,t1.sep.call (C39 ⟨by omega,by omega⟩ ?_)⟩
 intro wd g2 l2 id h2 s2
 have one:((1:Int):Rat)=1:=rfl
 rw [one] at id
 refine ⟨_,_,_,_,_,_,_,_,rfl,fun L F=>∃ (c:Nat) (g o:aG) (rb:Nat->Nat) (A':Option aJ) (cap':Nat) (wd:QV),c<=cols/\L= .slice A' (ecE M n c).cs.length cap'::I (c:Int)::qc wd/\h.le g/\Mt F g o bo rb n w (ecE M n c).R/\OwnSl o I4 A' cap' (zs (ecE M n c).cs)/\Xd bo rb n A'/\NQ g wd (ecE M n c).det,fun L _=>cols-(iAt L 1).toNat,
  ⟨0,g2,o1,ac,none,0,wd,by omega,rfl,Heap.le_trans aj l2,t1.next s2 l2,(OwnSl.nil:OwnSl o1 I4 none 0 ([]:List Int)),⟨by simp,fun i hi=>by simp⟩,id⟩,?_⟩
 rintro pA pn T z d0 u D r d2 C y q F ⟨c,g,o,rb,A',cap',f,ax,E,lg,t,ow,ap,iq⟩
 simp only [bH,cQ,bJ,true_and] at E
 obtain ⟨⟨rfl,rfl,rfl⟩,rfl,E⟩:=E
 obtain ⟨rfl,_⟩:=C0y (by simpa only [bH,cF,bJ,and_true] using E:(.bool d0:bY) :: .slice u D r :: .bool d2 :: .slice C y q::[]= .bool f.s :: .slice f.A f.n f.c :: .bool f.s2 :: .slice f.A2 f.n2 f.c2::[])
 have aq:=Ls M n c
 have Q:∀ (he:ecE M n cols=ecE M n c),Br (decide ((((ecE M n c).cs.length:Nat):Int)<(cols:Int))) (K (.tuple #[.slice (some ⟨bo,0,none⟩) n c0,.slice pA (ecE M n c).cs.length T,.agg #[.bool false,.slice none 0 0,.bool false,.slice none 0 0]]) F)
  (K (.tuple #[.slice (some ⟨bo,0,none⟩) n c0,.slice pA (ecE M n c).cs.length T,.agg #[.bool d0,.slice u D r,.bool d2,.slice C y q]]) F):=by
  intro he
  rw [<- he] at t ow iq ⊢
  refine B6 (fun aa=>?_) (fun S=>?_)
  ·have e:B41 M n cols=0:=by unfold B41;rw [iP (by omega)]
   exact hK F g o bo rb c0 pA T ⟨false,none,0,0,false,none,0,0⟩ lg t ow ap (by rw [e];exact NQ.zero)
  ·have e:B41 M n cols=(ecE M n cols).det:=by unfold B41;rw [iN (by omega)]
   exact hK F g o bo rb c0 pA T ⟨d0,u,D,r,d2,C,y,q⟩ lg t ow ap (by rw [e];exact iq)
 refine B6 (fun aa=>?_) (fun S=>Q (by have:c=cols:=by omega
                                      rw [this]))
 have O:c<cols:=by omega
 have W:c<w:=by omega
 refine B6 (fun H=>?_) (fun H=>Q (by
  have:=B2g (n:=n) (s:=⟨M,[],1⟩) (c:=c) (by show n<=(ecE M n c).cs.length;omega) (cols-c)
  rw [show c+(cols-c)=cols by omega] at this
  exact this))
 have J:(ecE M n c).cs.length<n:=by omega
 have ad:=(SzE.run (n:=n) (w:=w) (m:=m) (s:=⟨M,[],1⟩) ⟨fun a b ha hb=>by show Sz (7^0*m) (M a b);rw [dR,aL];exact hs a b ha hb,by show Sz (7^0*m) 1;rw [dR,aL];exact Sz.int (z:=1) (ZB.one hm1) hm1,bN _⟩ hm1 c (by omega))
 have p:SzE n w m (ecE M n c):=ad
 have d:ecE M n (c+1)=Fp n c (ecE M n c):=rfl
 have aw:7^(ecE M n c).cs.length*m*7<=7^nq*m:=by
  have h1:7^(ecE M n c).cs.length*7<=7^nq:=by rw [<- dS];exact cO (by decide) (hnq c O)
  calc 7^(ecE M n c).cs.length*m*7=7^(ecE M n c).cs.length*7*m:=by rw [cZ,aN m 7,<- cZ]
   _<=7^nq*m:=aD _ h1
 have ae:=A0k (ecE M n c).cs.length m hm1
 obtain ⟨r1,r2,r3,r4⟩:=Yh n c (ecE M n c) p.len
 have V:B4 ((c:Int)+1)=((c+1:Nat):Int):=by rw [B7]<;>omega
 generalize hst:ecE M n c=st at *
 generalize hB:7^st.cs.length*m=B at *
 refine ⟨fun L X=>L=[I ((Hm n c st:Nat):Int)]/\X=F,⟨fun L X=>∃ k:Nat,st.cs.length<=k/\k<=Hm n c st/\L=[I (k:Int)]/\X=F,fun L _=>n-(iAt L 0).toNat,⟨st.cs.length,aF _,r1,rfl,rfl⟩,?_⟩,?_⟩
 ·rintro z X ⟨k,ag,av,E,rfl⟩
  obtain rfl:=sI1 E
  refine B6 (fun aa=>?_) (fun S=>⟨by have:k=Hm n c st:=by omega
                                     rw [this],rfl⟩)
  have N:k<n:=by omega
  obtain ⟨ch,au,G⟩:=t.head N
  obtain ⟨x,ix,x0,x1,x2,x3⟩:=t.elem N W
  refine ⟨_,rfl,by omega,by omega,_,_,_,t.sep.cell G,_,rfl,by omega,by omega,_,_,_,_,_,_,_,_,t.sep.cell x0,t.sep.cell x1,t.sep.cell x2,t.sep.cell x3,?_⟩
  refine Cb (ix.mono t.sep.le) ⟨_,rfl,D8 (fun e=>?_) (fun e=>?_)⟩
  ·have e0:st.R k c=0:=by rw [dL] at e;exact Rat.num_eq_zero.1 e
   have ar:k<Hm n c st:=by
    by_cases hx:k<Hm n c st
    ·exact hx
    ·exfalso
     have ah:k=Hm n c st:=by omega
     exact r3 (by omega) (by rw [<- ah];exact e0)
   rw [wiS k (by omega)]
   exact ⟨⟨k+1,by omega,by omega,rfl,rfl⟩,by simp only [Cd];omega⟩
  ·have e0:st.R k c≠0:=fun h=>e (by rw [h];rfl)
   have:k=Hm n c st:=by
    by_cases hx:k<Hm n c st
    ·exact absurd (r4 k ag hx) e0
    ·omega
   exact ⟨by rw [this],rfl⟩
 rintro k1 X ⟨E,rfl⟩
 obtain rfl:k1=((Hm n c st:Nat):Int):=by simpa using E
 refine C5q (B:=B) (wd0:=⟨d0,u,D,r,d2,C,y,q⟩) rfl t ow ap iq J r2 W hn hw ae (by rw [<- hB];exact p.det) (fun a b ha hb=>by rw [<- hB];exact p.R a b ha hb) (by omega) (fun ay=>?_) (fun ao=>?_)
 ·have l:Fp n c st={ st with det:=0 }:=by unfold Fp;rw [iP J,iN (by omega)]
  rw [V]
  refine ⟨⟨c+1,g,o,rb,pA,T,⟨false,none,0,0,false,none,0,0⟩,by omega,?_,lg,?_⟩,?_⟩
  ·rw [d,l]
  ·rw [d,l];exact ⟨t,ow,ap,NQ.zero⟩
  ·show cols-((c+1:Nat):Int).toNat<cols-((c:Nat):Int).toNat
   omega
 ·intro h' g' o' af A6 c6 ai ak t' an al am
  have l:Fp n c st={ R:=elimE (fun i=>st.R (xch st.cs.length (Hm n c st) i)) st.cs.length c,cs:=st.cs++[c],det:=(if Hm n c st=st.cs.length then st.det else-st.det)*st.R (Hm n c st) c }:=by unfold Fp;rw [iP J,iP ao]
  have Z:(st.cs++[c]).length=st.cs.length+1:=by simp
  rw [V]
  refine ⟨⟨c+1,g',o',af,A6,c6,ai,by omega,?_,Heap.le_trans lg ak,?_⟩,?_⟩
  ·rw [d,l,Z]
  ·rw [d,l];exact ⟨t',an,al,am⟩
  ·show cols-((c+1:Nat):Int).toNat<cols-((c:Nat):Int).toNat
   omega
end
section
variable {h:aG} {K:VP} {A B:Option aJ} {n m a b:Nat} {r c r2 c2:Int} {ls ls2:Nat->List UInt8}
def C2c{xs:List Int}(s:SlF h A xs){i:Nat}(hi:i<xs.length):∃ x,A=some x/\h.cell? (aE x (i*1))=some (I xs[i]):=by
 obtain ⟨x,e,a⟩:=SlF.at (by decide) s hi
 have:=a 0 _ rfl
 rw [Iw] at this
 exact ⟨x,e,this⟩
structure Small (r c:Int) (n:Nat) (ls:Nat->List UInt8) (k d:Int):Prop where
 hr:r<=k
 hc:c<=k
 hn:(n:Int)<=k*k+2
 hl:∀ i,i<n->((ls i).length:Int)<=d
end
def B7h(ls:List (List UInt8)):(ls.flatMap fun l=>[dC (bs l)])=ls.map fun l=>dC (bs l):=by
 induction ls with
 | nil=>rfl
 | cons x l ih=>rw [List.flatMap_cons,ih];rfl
def B2h{h:aG}{A:Option aJ}{ls:List (List UInt8)}(s:SlV h A (ls.map fun l=>dC (bs l))):bB SSr h A ls.length (fun i=>ls.getD i []):=by
 refine ⟨ls,?_,rfl,fun i a=>⟨ls[i],aI a,?_⟩⟩
 ·show SlV h A (ls.flatMap fun l=>[dC (bs l)])
  rw [B7h];exact s
 ·show ls[i]=ls.getD i []
  simp [a]
section
variable {h:aG} {K:VP} {A B:Option aJ} {n cap m:Nat} {r c:Int} {ls:Nat->List UInt8}
def Rt{E:Nat->Rat}{rows cols:Nat}(hs:∀ i,i<rows*cols->Sz m (E i)):∀ i j,i<rows->j<cols->Sz m (mtx E cols i j):=fun _ _ a b=>hs _ (Bg a b)
def C1i{M:Nat->Nat->Rat}{n w c nq:Nat}(hs:∀ i j,i<n->j<w->Sz m (M i j))(hm:1<=m)(hc:c<=w)(hnq:(ecE M n c).cs.length<=nq){b:Nat}(hb:7^nq*m<=b):(∀ i j,i<n->j<w->Sz b ((ecE M n c).R i j))/\Sz b (ecE M n c).det:=by
 have z:SzE n w m ⟨M,[],1⟩:=⟨fun i j a d=>by simpa using hs i j a d,by simpa using (⟨ZB.one hm,ZB.one hm⟩:Sz m 1),bN _⟩
 have y:=z.run hm c hc
 have e:7^(ecE M n c).cs.length*m<=7^nq*m:=aD _ (cO (by decide) hnq)
 exact ⟨fun i j a d=>(y.R i j a d).mono (by show 7^(ecE M n c).cs.length*m<=b;omega),y.det.mono (by show 7^(ecE M n c).cs.length*m<=b;omega)⟩
end
def C1a(cs:List Nat){i:Nat}(hi:i<cs.length):(zs cs)[i]'(by rw [dI];exact hi)=((cs.getD i 0:Nat):Int):=by
 rw [List.getElem_map,aR,aI hi];rfl
def B93{h:aG}{A:Option aJ}{cs:List Nat}(s:SlF h A (zs cs)){i:Nat}(hi:i<cs.length):∃ x,A=some x/\h.cell? (aE x (i*1))=some (I ((cs.getD i 0:Nat):Int)):=by
 obtain ⟨x,e,a⟩:=C2c s (i:=i) (by rw [dI];exact hi)
 rw [C1a cs hi] at a
 exact ⟨x,e,a⟩
def B3g{cs:List Nat}{c:Nat}(h:Asc cs c){i:Nat}(hi:i<cs.length):cs.getD i 0<c:=by
 rw [aR,aI hi];exact h.lt _ (List.getElem_mem hi)
section
variable {h:aG} {K:VP} {A:Option aJ} {n cap m w:Nat} {r c:Int} {ls:Nat->List UInt8} {M:Nat->Nat->Rat}
end
section
variable {α β:Type} {R:aG->α->β->Prop} {g:aG}
def Row.app{xs ys:List α}{f:Nat->β}{p q:Nat}(hp:xs.length=p)(r:Row R g xs p f)(r2:Row R g ys q (fun j=>f (p+j))):Row R g (xs++ys) (p+q) f:=fun i b=>by
 by_cases h:i<p
 ·obtain ⟨w,e,x⟩:=r i h
  exact ⟨w,by rw [bF (by omega)];exact e,x⟩
 ·obtain ⟨w,e,x⟩:=r2 (i-p) (by omega)
  refine ⟨w,by rw [cD (by omega),hp];exact e,?_⟩
  have a:p+(i-p)=i:=by omega
  show R g w (f i)
  rw [<- a];exact x
end
section
variable {h:aG} {K:VP} {A:Option aJ} {n cap m:Nat} {r c:Int} {ls:Nat->List UInt8}
def A5t{z:Int}(hz: -9223372036854775808<=z/\z<=9223372036854775807)(hK:∀ w h',h.le h'->RQ h' w (z:Rat)->K w.v h'):aW prog A15 #[I z] h K:=by
 refine B54 _ ?_
 unfold B9t
 exact Ec hz.1 hz.2 fun a A1 b c1 h' l i=>⟨_,_,_,_,rfl,hK _ h' l (A88 i)⟩
end
def G8(E b:Nat->Rat)(cols:Nat):Nat->Rat:=fun k=>if k%(cols+1)<cols then E (k/(cols+1)*cols+k%(cols+1)) else b (k/(cols+1))
def dm1{i j c:Nat}(hj:j<c):(i*c+j)/c=i/\(i*c+j)%c=j:=by
 rw [cL,bD,cN hj,bX _ _ (by omega),bL hj,aM]
 exact ⟨rfl,rfl⟩
def Hs(E b:Nat->Rat){cols i j:Nat}(hj:j<cols):mtx (G8 E b cols) (cols+1) i j=mtx E cols i j:=by
 obtain ⟨c,a⟩:=dm1 (i:=i) (show j<cols+1 by omega)
 show G8 E b cols (i*(cols+1)+j)=_
 unfold G8
 rw [c,a,iP hj]
 rfl
def Pr(E b:Nat->Rat)(cols i:Nat):mtx (G8 E b cols) (cols+1) i cols=b i:=by
 obtain ⟨c,a⟩:=dm1 (i:=i) (show cols<cols+1 by omega)
 show G8 E b cols (i*(cols+1)+cols)=_
 unfold G8
 rw [c,a,iN (aS cols)]
def A7u{E b:Nat->Rat}{rows cols m:Nat}(hs:∀ i,i<rows*cols->Sz m (E i))(hb:∀ i,i<rows->Sz m (b i)):∀ i,i<rows*(cols+1)->Sz m (G8 E b cols i):=by
 intro i c
 have a:i/(cols+1)<rows:=cC (by rw [aN];exact c)
 unfold G8
 by_cases e:i%(cols+1)<cols
 ·rw [iP e];exact hs _ (Bg a e)
 ·rw [iN e];exact hb _ a
abbrev Nh(E b:Nat->Rat)(rows cols:Nat):ES:=elE (G8 E b cols) rows (cols+1) cols
def Gw(E b:Nat->Rat)(rows cols:Nat):Prop:=∀ i,i<rows->(Nh E b rows cols).cs.length<=i->(Nh E b rows cols).R i cols=0
def A33(E b:Nat->Rat)(rows cols:Nat):Nat->Rat:=C0v (fun _=>0) (fun m=>(Nh E b rows cols).R m cols) 0 (Nh E b rows cols).cs
def B1d(f:Nat->Rat)(cs:List Nat):Nat->Nat->Rat
 | 0=>fun _=>0
 | k+1=>fun j=>if j=cs.getD k 0 then f k else B1d f cs k j
def B2q(f:Nat->Rat)(cs:List Nat):∀ k,k<=cs.length->C0v (B1d f cs k) f k (cs.drop k)=C0v (fun _=>0) f 0 cs:=by
 intro k
 induction k with
 | zero=>intro _;rfl
 | succ k ih=>
  intro a
  rw [<- ih (by omega),List.drop_eq_getElem_cons (show k<cs.length by omega)]
  have e:cs.getD k 0=cs[k]:=by rw [aR,aI (by omega)];rfl
  show C0v (B1d f cs (k+1)) f (k+1) (cs.drop (k+1))=C0v (fun j=>if j=cs[k] then f k else B1d f cs k j) f (k+1) (cs.drop (k+1))
  rw [<- e]
  rfl
def A0j(f:Nat->Rat)(cs:List Nat):B1d f cs cs.length=C0v (fun _=>0) f 0 cs:=by
 have:=B2q f cs cs.length (aF _)
 rw [List.drop_length] at this
 exact this
def B2b(E b:Nat->Rat)(rows cols:Nat):EqA rows (cols+1) cols (mtx (G8 E b cols) (cols+1)) (Nh E b rows cols):=EqA.run _ cols (by omega)
def C36{E b:Nat->Rat}{rows cols:Nat}(x:Nat->Rat)(h:∀ i,i<rows->sm cols (fun j=>mtx E cols i j*x j)=b i):Gw E b rows cols:=by
 intro i c e
 obtain ⟨T,d⟩:=(B2b E b rows cols).comb
 rw [d i cols c (by omega)]
 have f:∀ j,j<cols->sm rows (fun l=>T i l*mtx E cols l j)=0:=by
  intro j a
  rw [D7 (g:=fun l=>T i l*mtx (G8 E b cols) (cols+1) l j) fun l _=>by rw [Hs E b a],<- d i j c (by omega)]
  exact (B2b E b rows cols).zero i j c e a
 rw [D7 (g:=fun l=>sm cols fun j=>T i l*mtx E cols l j*x j) fun l k=>by
  rw [Pr,<- h l k,<- Gz]
  exact D7 fun j _=>(dM _ _ _).symm]
 rw [A5z]
 refine Fs fun j a=>?_
 rw [D7 (g:=fun l=>x j*(T i l*mtx E cols l j)) fun l _=>aV _ _,Gz,f j a,aX]
def B6t{E b:Nat->Rat}{rows cols:Nat}(h:¬ Gw E b rows cols):∃ y:Nat->Rat,(∀ j,j<cols->sm rows (fun l=>y l*mtx E cols l j)=0)/\sm rows (fun l=>y l*b l)=1:=by
 have:∃ i,i<rows/\(Nh E b rows cols).cs.length<=i/\(Nh E b rows cols).R i cols≠0:=by
  refine bG fun g=>h fun i c d=>bG fun a=>g ⟨i,c,d,a⟩
 obtain ⟨i,c,d,a⟩:=this
 obtain ⟨y,k,f⟩:=(B2b E b rows cols).none c d a
 refine ⟨y,fun j e=>?_,?_⟩
 ·rw [<- k j e]
  exact D7 fun l _=>by rw [Hs E b e]
 ·rw [<- f]
  exact D7 fun l _=>by rw [Pr]
def A2i(E b:Nat->Rat)(rows cols:Nat):Nat->Rat:=fun k=>if k<cols*rows then E (k%rows*cols+k/rows) else b (k-cols*rows)
def B2m(cols:Nat):Nat->Rat:=fun i=>if i=cols then 1 else 0
def A8a(E b:Nat->Rat){rows cols i j:Nat}(hi:i<cols)(hj:j<rows):mtx (A2i E b rows cols) rows i j=mtx E cols j i:=by
 obtain ⟨c,a⟩:=dm1 (i:=i) hj
 show A2i E b rows cols (i*rows+j)=_
 unfold A2i
 rw [iP (Bg hi hj),c,a]
 rfl
def A3f(E b:Nat->Rat){rows cols j:Nat}:mtx (A2i E b rows cols) rows cols j=b j:=by
 show A2i E b rows cols (cols*rows+j)=_
 unfold A2i
 rw [iN (by omega),cW]
def C38{E b:Nat->Rat}{rows cols:Nat}(h:¬ Gw E b rows cols):Gw (A2i E b rows cols) (B2m cols) (cols+1) rows:=by
 obtain ⟨y,d,c⟩:=B6t h
 refine C36 y fun i f=>?_
 unfold B2m
 by_cases e:i=cols
 ·subst e
  rw [iP rfl,<- c]
  exact D7 fun j _=>by rw [A3f,aV]
 ·rw [iN e,<- d i (by omega)]
  exact D7 fun j a=>by rw [A8a E b (by omega) a,aV]
def C0r{E b:Nat->Rat}{rows cols m B:Nat}(hB:1<=B)(hs:∀ i j,i<rows->j<cols+1->Sz B ((Nh E b rows cols).R i j))(j:Nat):Sz B (A33 E b rows cols j):=by
 have c:(Nh E b rows cols).cs.length<=rows:=(Ls (mtx (G8 E b cols) (cols+1)) rows cols).2
 unfold A33
 rw [<- A0j]
 have:∀ k,k<=(Nh E b rows cols).cs.length->Sz B (B1d (fun m=>(Nh E b rows cols).R m cols) (Nh E b rows cols).cs k j):=by
  intro k
  induction k with
  | zero=>intro _;exact Sz.zero hB
  | succ k ih=>
   intro a
   show Sz B (if j=_ then _ else _)
   split
   ·exact hs k cols (by omega) (by omega)
   ·exact ih (by omega)
 exact this _ (aF _)
def B6u(E b:Nat->Rat)(rows cols:Nat):fnd (fun i=>decide ((elP (G8 E b cols) rows (cols+1) cols).M i cols≠0)) (rows-(Nh E b rows cols).cs.length) (Nh E b rows cols).cs.length=rows↔Gw E b rows cols:=by
 have rel:=B3z (G8 E b cols) (rows:=rows) (cols:=cols+1) (c:=cols) (by omega)
 have r:(Nh E b rows cols).cs.length<=rows:=(Ls (mtx (G8 E b cols) (cols+1)) rows cols).2
 have n:∀ i,i<rows->(Nh E b rows cols).cs.length<=i->((elP (G8 E b cols) rows (cols+1) cols).M i cols=0↔(Nh E b rows cols).R i cols=0):=by
  intro i f g
  have a:=rel.val i cols f (by omega)
  rw [iN (by have:(elE (G8 E b cols) rows (cols+1) cols).cs.length<=i:=g;omega)] at a
  have k:=W8 rel.last
  have p:=rel.scale i f
  constructor
  ·intro e
   rw [e] at a
   have q:((0:Int):Rat)=0:=rfl
   rw [q] at a
   rcases Rat.mul_eq_zero.1 a.symm with l|l
   ·exact absurd l k
   ·rcases Rat.mul_eq_zero.1 l with m|m
    ·exact absurd m p
    ·exact m
  ·intro e
   have o:(elE (G8 E b cols) rows (cols+1) cols).R i cols=0:=e
   rw [o,aX,aX] at a
   exact_mod_cast a
 have d:=Tk (fun i=>decide ((elP (G8 E b cols) rows (cols+1) cols).M i cols≠0)) (rows-(Nh E b rows cols).cs.length) (Nh E b rows cols).cs.length
 constructor
 ·intro e i f g
  have:=d i g (by omega)
  exact (n i f g).1 (by simpa using this)
 ·intro h
  refine B3j _ r (by omega) (fun j a k=>?_) (fun s=>by omega)
  simpa using (n j k a).2 (h j k a)
section
variable {h:aG} {K:VP} {A B:Option aJ} {n n2 cap cap2 m rows cols nb:Nat} {E b:Nat->Rat}
def Nt{nq:Nat}(gl:Gl h)(ra:bB RQr h A (rows*cols) E)(hcap:rows*cols<=cap)(rb:bB RQr h B nb b)(hnb:rows<=nb)(hr:1<=rows)(hr2:rows<=1000)(hc:1<=cols)(hc2:cols<=1000)(hs:∀ i,i<rows*cols->Sz m (E i))(hsb:∀ i,i<rows->Sz m (b i))(hnq:∀ j,j<=cols->(elE (G8 E b cols) rows (cols+1) j).cs.length<=nq)(hm:2*(3^nq*bnd (cols+1) m)+1<=40000000)
 (hK1:Gw E b rows cols->∀ b' h',h.le h'->bB RQr h' (some ⟨b',0,none⟩) cols (A33 E b rows cols)->K (.tuple #[.slice (some ⟨b',0,none⟩) cols cols,.bool true]) h')
 (hK0:¬ Gw E b rows cols->∀ h',h.le h'->K (.tuple #[.slice none 0 0,.bool false]) h'):aW prog Oo #[.slice A (rows*cols) cap,I (rows:Int),I (cols:Int),.slice B nb cap2] h K:=by
 refine B17 _ _ _ _ _ _ _ _ ?_
 unfold B5w
 have a9:rows*cols<=1000*1000:=aZ hr2 hc2
 have a7:rows*(cols+1)<=1000*1001:=aZ hr2 (by omega)
 refine ⟨fun L hp=>∃ (k:Nat) (g o:aG) (xs:List QV) (A':Option aJ) (c':Nat),k<=rows/\L=[.slice A' (k*(cols+1)) c',I (k:Int)]/\h.le g/\Sep hp g o/\OwnSl o K4 A' c' xs/\xs.length=k*(cols+1)/\Row RQr g xs (k*(cols+1)) (G8 E b cols),fun L _=>rows-(iAt L 1).toNat,
  ⟨0,h,Cp,[],none,0,by omega,by rw [cG];rfl,B3 _,Sep.refl h,OwnSl.nil,by simp,by rw [cG];exact Row.nil⟩,?_⟩
 rintro wA wn wc z hp ⟨k,g,o,xs,A',c',hk,eL,lg,s,ow,e,rr⟩
 obtain ⟨⟨rfl,rfl,rfl⟩,rfl⟩:=sI2 eL
 refine B6 (fun N=>?_) (fun au=>?_)
 ·have t:k<rows:=by omega
  have h2:(k+1)*cols<=rows*cols:=aD _ t
  have x:(k+1)*cols=k*cols+cols:=by rw [aK,aL]
  have h4:(k+1)*(cols+1)=k*(cols+1)+cols+1:=by rw [aK,aL];omega
  have h5:(k+1)*(cols+1)<=rows*(cols+1):=aD _ t
  have e0:B4 ((k:Int)+1)=((k+1:Nat):Int):=B7 (by omega) (by omega)
  have e1:B4 ((k:Int)*(cols:Int))=((k*cols:Nat):Int):=by rw [<- aT];exact S4 (by omega)
  have e2:B4 (B4 ((k:Int)+1)*(cols:Int))=(((k+1)*cols:Nat):Int):=by rw [e0,<- aT];exact S4 (by omega)
  rw [e1,e2,e0]
  refine ⟨⟨by omega,by omega⟩,⟨by omega,by simp only [aH];omega⟩,?_⟩
  simp only [aH]
  have e5:(k+1)*cols-k*cols=cols:=by omega
  rw [e5]
  have row:bB RQr h (J9 A cap (k*cols) 4) cols (fun j=>E (k*cols+j)):=ra.cut (c:=cap) (l:=k*cols) (k:=cols) (by omega) hcap
  obtain ⟨r,sy,p,qy⟩:=row
  refine OwnSl.app (ty:=U3) B25 s ow e.symm p.symm (by rintro rfl;simp at p;omega) (sy.mono (Heap.le_trans lg s.le)) (by rw [e,p];omega) (by rw [e,p];omega) ?_
  intro A2 c2 a3 g2 o2 l2 s2 ar _
  have G:=Heap.le_trans lg l2
  obtain ⟨a6,u,ao,iu,d0,d1,d2,d3⟩:=(rb.mono K7 G).qat (i:=k) (by omega)
  refine ⟨_,_,_,rfl,a6,ao,by omega,by omega,_,_,_,_,_,_,_,_,B5 s2.le d0,B5 s2.le d1,B5 s2.le d2,B5 s2.le d3,?_⟩
  have a:(xs++r).length=k*(cols+1)+cols:=by rw [aC,e,p]
  rw [e]
  refine R2 (ty:=U3) B25 s2 ar a.symm (y:=u) rfl (by decide) (by rw [a];omega) (by rw [a];omega) ?_
  intro A3 c3 a8 g3 o3 l3 s3 n _
  rw [a]
  have r1:Row RQr g2 (xs++r) (k*(cols+1)+cols) (G8 E b cols):=by
   refine Row.app e (rr.mono K7 l2) ((qy.mono K7 G).congr fun j hj=>?_)
   obtain ⟨f1,f2⟩:=dm1 (i:=k) (show j<cols+1 by omega)
   unfold G8
   rw [f1,f2,iP hj]
  refine ⟨⟨k+1,g3,o3,_,A3,c3,by omega,by rw [h4],Heap.le_trans G l3,s3,n,by rw [aC,a,h4];rfl,?_⟩,?_⟩
  ·have rB:=Row.push (R:=RQr) (g:=g3) (xs:=xs++r) (f:=G8 E b cols) (by rw [a];exact r1.mono K7 l3) (w:=u) (by
    obtain ⟨f1,f2⟩:=dm1 (i:=k) (show cols<cols+1 by omega)
    show RQ g3 u (G8 E b cols (xs++r).length)
    unfold G8
    rw [a,f1,f2,iN (aS cols)]
    exact K7 _ _ _ _ l3 iu)
   rw [aC,a] at rB
   rw [h4]
   exact rB
  ·show rows-((k+1:Nat):Int).toNat<rows-(k:Int).toNat
   omega
 have t:k=rows:=by omega
 subst t
 have ew:B4 ((cols:Int)+1)=((cols+1:Nat):Int):=B7 (by omega) (by omega)
 rw [ew]
 have aa:=Heap.le_trans lg s.le
 have rq:bB RQr hp wA (k*(cols+1)) (G8 E b cols):=⟨xs,ow.slF s.ole,e,rr.mono K7 s.le⟩
 have ag:=A7u (cols:=cols) hs hsb
 have a2:=A0l nq (bnd (cols+1) m) (by unfold bnd;omega)
 refine A30 (nq:=nq) (E:=G8 E b cols) (cc:=cols) (m:=m) (gl.mono aa) rq (by have:=ow.1;omega) (by omega) (by omega) (by omega) (by omega) (by omega) ag (fun j hj=>by rw [C1h _ (by omega)];exact hnq j hj) (by omega) ?_
 intro T h2 F l2 e1 e2
 refine ⟨_,rfl,FCall.mono F ?_⟩
 rintro r3 x ⟨g3,o3,A3,az,w,l3,W,n,aw,al,rfl⟩
 refine ⟨_,_,_,_,_,_,_,_,rfl,?_⟩
 have Q:=C3n (E:=G8 E b cols) (rows:=k) (cols:=cols+1) (c:=cols) ag (by omega)
 have ax:3^(elP (G8 E b cols) k (cols+1) cols).cs.length*bnd (cols+1) m<=3^nq*bnd (cols+1) m:=aD _ (cO (by decide) (by rw [C1h _ (by omega)];exact hnq cols (aF _)))
 have ap:=C1g (G8 E b cols) k (cols+1) cols
 have D:∀ i,i<(Nh E b k cols).cs.length->i<k->bZ ((elP (G8 E b cols) k (cols+1) cols).M i cols) (elP (G8 E b cols) k (cols+1) cols).last=(Nh E b k cols).R i cols:=fun i h1 hi=>C3p (G8 E b cols) (by omega) hi (by omega) (.inl h1)
 have ah:Asc (Nh E b k cols).cs cols:=A86 k ⟨_,[],1⟩ rfl cols
 have C:(Nh E b k cols).cs.length<=cols/\(Nh E b k cols).cs.length<=k:=Ls _ k cols
 have d:=B6u E b k cols
 have eX:A33 E b k cols=B1d (fun m=>(Nh E b k cols).R m cols) (Nh E b k cols).cs (Nh E b k cols).cs.length:=(A0j _ _).symm
 rw [C1h _ (by omega)] at n ⊢
 change (elE (G8 E b cols) k (cols+1) cols).cs.length<=cols/\_ at C
 rw [eX] at hK1
 clear eX
 unfold Nh at hK1 d D ah C
 generalize elP (G8 E b cols) k (cols+1) cols=st at *
 generalize (elE (G8 E b cols) k (cols+1) cols).cs=cs at *
 generalize (elE (G8 E b cols) k (cols+1) cols).R=R at *
 have aj:=Q.M
 have ai:=Q.last
 clear Q
 generalize 3^st.cs.length*bnd (cols+1) m=bb at aj ai ax
 have sp:=n.slF W.sep.ole
 have H:h.le x:=Heap.le_trans aa (Heap.le_trans l3 W.sep.le)
 have iw:ZIr x w st.last:=Kh _ _ _ _ W.sep.le al
 have ae:T.rows=k:=e1
 refine A46 W (start:=cs.length) (col:=cols) (by omega) (by omega) (fun N=>⟨_,_,rfl,hK0 (fun hx=>by rw [ae] at N;have:=d.2 hx;omega) x H⟩) (fun ak=>⟨_,_,rfl,?_⟩)
 have aq:=hK1 (d.1 (by rw [ae] at ak;exact ak))
 have J:∀ O,x.le O->∃ gT,Tab O gT o3 T st.M st.S:=fun O l=>by
  obtain ⟨gT,l',s'⟩:=W.sep.after l
  exact ⟨gT,W.next s' l'⟩
 clear W n aw al F hK1 hK0
 refine K8 B25 (zx:=Ck) rfl (by omega) (by omega) (by omega) (by omega) ?_
 intro b2 an
 simp only [aH]
 refine ⟨_,_,_,rfl,?_⟩
 have s5:=(Sep.refl x).new an (.cells ((aO cols Ck).flatMap enc).toArray K4)
 have r0:Row RQr x (aO cols Ck) cols (B1d (fun m=>R m cols) cs 0):=fun i hi=>⟨Ck,by rw [cX,iP hi],RQ.zero⟩
 refine ⟨fun L q=>∃ (i:Nat) (O o':aG) (r:List QV),i<=cs.length/\L=[I (i:Int)]/\x.le O/\Sep q O o'/\RowX o' b2 r/\r.length=cols/\Row RQr O r cols (B1d (fun m=>R m cols) cs i),fun L _=>cs.length-(iAt L 0).toNat,⟨0,x,_,_,by omega,rfl,B3 _,s5,RowX.mk,aP,r0⟩,?_⟩
 rintro z q ⟨i,g6,o6,r,hi,eL,Z,X,af,hy,ad⟩
 obtain rfl:=sI1 eL
 refine B6 (fun N=>?_) (fun au=>?_)
 ·have V:i<cs.length:=by omega
  obtain ⟨u,eu,ay⟩:=B93 (sp.mono (Heap.le_trans Z X.le)) V
  have a4:=B3g ah V
  obtain ⟨gT,tT⟩:=J g6 Z
  refine ⟨u,eu,by omega,by omega,_,ay,?_⟩
  refine X.call (Fv tT (i:=i) (by omega) ?_)
  intro h7 s7
  obtain ⟨wv,zv,c0,c1⟩:=tT.at (i:=i) (j:=cols) (by omega) (by omega)
  refine ⟨_,_,_,rfl,X.le_le s7 (B3 _),_,rfl,by omega,by omega,_,_,_,_,B5 s7.le c0,B5 s7.le c1,?_⟩
  refine s7.call (Bl (gl.mono (Heap.le_trans H Z)).tz (Kh _ _ _ _ tT.sep.le zv) (Kh _ _ _ _ Z iw) (aj _ _ (by omega) (by omega)) ai (by omega) ?_)
  intro w9 g9 l9 i9 h9 s9
  rw [D i V (by omega)] at i9
  refine ⟨_,_,_,_,_,_,_,_,rfl,s7.le_le s9 l9,_,rfl,by omega,by omega,?_⟩
  refine T7 Ti (y:=w9) rfl s9 af (i:=cs.getD i 0) (by omega) ?_
  intro a1 am a5 a0 av ac
  rw [wiS i (by omega)]
  exact ⟨⟨i+1,g9,am,_,by omega,rfl,Heap.le_trans Z l9,av,ac,by rw [cI];exact hy,(ad.mono K7 l9).upd (by omega) i9⟩,by simp only [Cd];omega⟩
 ·have:i=cs.length:=by omega
  subst this
  exact aq b2 q (Heap.le_trans H (Heap.le_trans Z X.le)) ⟨r,af.rowB.slF X.ole,hy,ad.mono K7 X.le⟩
end
section
variable {h:aG} {K:VP} {A:Option aJ} {n cap m w:Nat} {r c:Int} {ls:Nat->List UInt8} {R:Nat->Nat->Rat}
def Vi(hn:n<=10000)(hw:w<=10000)
 (hK:∀ h' g' o' bo rb,h.le g'->Mt h' g' o' bo rb n w (fun _ _=>0)->K (.slice (some ⟨bo,0,none⟩) n n) h'):aW prog Tv #[I (n:Int),I (w:Int)] h K:=by
 refine B64 _ _ ?_
 unfold C0c
 refine K8 C4u (zx:=(⟨none,0,0⟩:HV)) rfl (by omega) (by omega) (by omega) (by omega) ?_
 intro bo F
 simp only [aH]
 refine ⟨_,_,_,rfl,fun L C=>∃ (k:Nat) (g o:aG) (l:List HV) (rb:Nat->Nat),k<=n/\L=[I (k:Int)]/\h.le g/\Sep C g o/\RowX o bo l/\l.length=n/\(∀ i,i<k->l[i]? = some ⟨some ⟨rb i,0,none⟩,w,w⟩)/\(∀ i,i<k->rb i≠bo)/\(∀ i j,i<k->j<k->rb i=rb j->i=j)/\(∀ i,i<k->RowX o (rb i) (aO w Ck)),fun L _=>n-(iAt L 0).toNat,
  ⟨0,h,Cp.put bo _,aO n ⟨none,0,0⟩,fun _=>0,by omega,rfl,B3 _,Ci F,RowX.mk,aP,fun i a=>by omega,fun i a=>by omega,fun i j a=>by omega,fun i a=>by omega⟩,?_⟩
 rintro z C ⟨k,g,o,l,rb,W,Q,G,s,A,J,H,t,O,E⟩
 obtain rfl:=sI1 Q
 refine B6 (fun S=>?_) (fun V=>?_)
 ·have T:k<n:=by omega
  refine K8 Px (zx:=Ck) rfl (by omega) (by omega) (by omega) (by omega) ?_
  intro b c
  simp only [aH]
  have m:∀ q x,o q=some x->q≠b:=by
   rintro q x e rfl
   rw [s.own q x e] at c;cases c
  have f:bo≠b:=by obtain ⟨e,B⟩:=A;exact m _ _ B
  have d:∀ i,i<k->rb i≠b:=fun i a=>by obtain ⟨e,B⟩:=E i a;exact m _ _ B
  refine ⟨_,_,_,rfl,_,rfl,by omega,by omega,?_⟩
  refine T7 A06 (y:=(⟨some ⟨b,0,none⟩,w,w⟩:HV)) rfl (s.new c _) (A.other f _) (i:=k) (by omega) ?_
  intro Z N X p R D
  rw [wiS k (by omega)]
  refine ⟨⟨k+1,g,N,_,fun i=>if i=k then b else rb i,by omega,rfl,G,R,D,by rw [cI];exact J,fun i a=>?_,fun i a=>?_,fun i j a M e=>?_,fun i a=>?_⟩,by simp only [Cd];omega⟩
  ·show (l.set k _)[i]? = some (⟨some ⟨if i=k then b else rb i,0,none⟩,w,w⟩:HV)
   by_cases e:i=k
   ·subst e
    rw [iP rfl,bV (by omega)]
   ·rw [iN e,bK (fun x=>e x.symm)]
    exact H i (by omega)
  ·show (if i=k then b else rb i)≠bo
   by_cases e:i=k
   ·rw [iP e];exact f.symm
   ·rw [iN e];exact t i (by omega)
  ·change (if i=k then b else rb i)=(if j=k then b else rb j) at e
   by_cases u:i=k
   ·by_cases r:j=k
    ·omega
    ·rw [iP u,iN r] at e
     exact absurd e.symm (d j (by omega))
   ·by_cases r:j=k
    ·rw [iN u,iP r] at e
     exact absurd e (d i (by omega))
    ·rw [iN u,iN r] at e
     exact O i j (by omega) (by omega) e
  ·show RowX N (if i=k then b else rb i) _
   by_cases e:i=k
   ·rw [iP e,p]
    exact RowX.mk.other f.symm _
   ·rw [iN e,p]
    exact ((E i (by omega)).other (d i (by omega)) _).other (t i (by omega)) _
 ·have:k=n:=by omega
  subst this
  refine hK C g o bo rb G ⟨s,⟨l,A.rowB,J,fun i a=>⟨w,H i a,aF _⟩⟩,t,O,fun i a=>⟨_,(E i a).rowB,aP,fun j M=>⟨Ck,by rw [cX,iP M],NQ.zero⟩⟩⟩
def A9o(R:Nat->Nat->Rat)(i k:Nat):Nat->Nat->Rat:=fun a b=>if b<i\/(b=i/\a<k) then R b a else 0
def A6l(rs:RowsV h A n w R)(hn1:1<=n)(hn:n<=10000)(hw:w<=10000)
 (hK:∀ h' g' o' bo rb,h.le g'->Mt h' g' o' bo rb w n (fun a b=>R b a)->K (.slice (some ⟨bo,0,none⟩) w w) h'):aW prog A6u #[.slice A n cap] h K:=by
 refine B8s _ _ _ ?_
 unfold C4o
 obtain ⟨a,sv,F,W,e2,E,_⟩:=rs.at (i:=0) (by omega)
 refine ⟨a,F,by omega,by omega,_,_,_,E,?_⟩
 rw [W]
 refine Vi hw hn ?_
 intro h1 g1 Q bo rb l1 t1
 refine ⟨_,_,_,rfl,fun L r=>∃ (i:Nat) (g o:aG),i<=n/\L=[I (i:Int)]/\h.le g/\Mt r g o bo rb w n (A9o R i 0),fun L _=>n-(iAt L 0).toNat,⟨0,g1,Q,by omega,rfl,l1,t1.congr fun a b _ _=>by unfold A9o;rw [iN (by omega)]⟩,?_⟩
 rintro z r ⟨i,g,o,hi,H,x,t⟩
 obtain rfl:=sI1 H
 refine B6 (fun aa=>?_) (fun ac=>?_)
 ·have p:i<n:=by omega
  obtain ⟨C,s1,l,G,f2,q,row⟩:=rs.at p
  refine ⟨fun L r=>∃ (k:Nat) (g o:aG),k<=w/\L=[I (k:Int)]/\h.le g/\Mt r g o bo rb w n (A9o R i k),fun L _=>w-(iAt L 0).toNat,⟨0,g,o,by omega,rfl,x,t⟩,?_⟩
  rintro z O ⟨k,y,S,hk,u,d,c⟩
  obtain rfl:=sI1 u
  have m:=Heap.le_trans d c.sep.le
  refine ⟨C,l,by omega,by omega,_,_,_,B5 m q,?_⟩
  rw [G]
  refine B6 (fun D=>?_) (fun B=>?_)
  ·have f:k<w:=by omega
   obtain ⟨cc,T,M⟩:=c.head f
   obtain ⟨J,w5,X,V,c0,c1,s,c3⟩:=(row.mono P8 d).qat f
   refine ⟨_,rfl,by omega,by omega,_,_,_,c.sep.cell M,C,l,by omega,by omega,_,_,_,B5 m q,J,X,by omega,by omega,_,_,_,_,_,_,_,_,B5 c.sep.le c0,B5 c.sep.le c1,B5 c.sep.le s,B5 c.sep.le c3,_,rfl,by omega,by omega,?_⟩
   refine c.store f p V ?_
   intro h6 o6 Z _
   rw [wiS k (by omega)]
   refine ⟨⟨k+1,y,o6,by omega,rfl,d,Z.congr fun a b _ _=>?_⟩,by simp only [Cd];omega⟩
   unfold C0j A9o
   by_cases e:a=k/\b=i
   ·rw [iP e,iP (by omega),e.1,e.2]
   ·rw [iN e]
    by_cases j:b<i\/(b=i/\a<k)
    ·rw [iP j,iP (by omega)]
    ·rw [iN j,iN (by omega)]
  ·have:k=w:=by omega
   subst this
   rw [wiS i (by omega)]
   refine ⟨⟨i+1,y,S,by omega,rfl,d,c.congr fun a b ha _=>?_⟩,by simp only [Cd];omega⟩
   unfold A9o
   by_cases j:b<i\/(b=i/\a<k)
   ·rw [iP j,iP (by omega)]
   ·rw [iN j,iN (by omega)]
 ·have:i=n:=by omega
  subst this
  exact hK r g o bo rb x (t.congr fun a b _ N=>by unfold A9o;rw [iP (.inl N)])
def Kd{α:Type}[E:Enc α]{o:aG}{b:Nat}{e:bW}{c:Nat}{zx:α}:OwnSl (o.put b (.cells ((aO c zx).flatMap enc).toArray e)) e (some ⟨b,0,none⟩) c ([]:List α):=
 ⟨bN _,.inr ⟨b,_,rfl,B9 _ _ _,by rw [K9,aP],by simp⟩⟩
def A3o{rows cols:Nat}(rv':bB SSr h A (rows*cols) ls)(hr:rows<=10000)(hc:cols<=10000)
 (hK:∀ A' c' h' g' o' xs,h.le g'->Sep h' g' o'->OwnSl o' J0 A' c' xs->xs.length=rows*cols->Row SSr g' xs (rows*cols) (fun k=>ls (k%rows*cols+k/rows))->K (.slice A' (rows*cols) c') h'):aW prog Gh #[.slice A (rows*cols) cap,I (rows:Int),I (cols:Int)] h K:=by
 refine Xx _ _ _ _ _ ?_
 unfold Wy
 have aa:rows*cols<=10000*10000:=aZ hr hc
 refine K8 Y9 (zx:=([]:List UInt8)) rfl (by omega) (by omega) (by omega) (by omega) ?_
 intro b X
 simp only [aH]
 refine ⟨_,_,_,rfl,fun L t=>∃ (j:Nat) (g o:aG) (xs:List (List UInt8)) (A':Option aJ) (c':Nat),j<=cols/\L=[.slice A' (j*rows) c',I (j:Int)]/\h.le g/\Sep t g o/\OwnSl o J0 A' c' xs/\xs.length=j*rows/\Row SSr g xs (j*rows) (fun k=>ls (k%rows*cols+k/rows)),fun L _=>cols-(iAt L 1).toNat,
  ⟨0,h,Cp.put b _,[],some ⟨b,0,none⟩,rows*cols,by omega,by rw [cG];rfl,B3 _,Ci X,Kd,by simp,by rw [cG];exact Row.nil⟩,?_⟩
 rintro H rn rc z t ⟨j,g,o,xs,A',c',hj,B,J,s,M,l,E⟩
 obtain ⟨⟨rfl,rfl,rfl⟩,rfl⟩:=sI2 B
 refine B6 (fun ac=>?_) (fun ad=>?_)
 ·have u:j<cols:=by omega
  have p:(j+1)*rows=j*rows+rows:=by rw [aK,aL]
  have G:(j+1)*rows<=cols*rows:=aD _ u
  rw [aN cols rows] at G
  refine ⟨fun L t=>∃ (i:Nat) (g o:aG) (xs:List (List UInt8)) (A':Option aJ) (c':Nat),i<=rows/\L=[.slice A' (j*rows+i) c',I (i:Int)]/\h.le g/\Sep t g o/\OwnSl o J0 A' c' xs/\xs.length=j*rows+i/\Row SSr g xs (j*rows+i) (fun k=>ls (k%rows*cols+k/rows)),fun L _=>rows-(iAt L 1).toNat,
   ⟨0,g,o,xs,H,rc,by omega,rfl,J,s,M,l,E⟩,?_⟩
  rintro qA qn qc z Z ⟨i,W,o2,x,A2,c2,hi,B,e,D,r,c,m⟩
  obtain ⟨⟨rfl,rfl,rfl⟩,rfl⟩:=sI2 B
  refine B6 (fun S=>?_) (fun N=>?_)
  ·have d:i<rows:=by omega
   have q:=Bg d u
   have ew:B4 (B4 ((i:Int)*(cols:Int))+(j:Int))=((i*cols+j:Nat):Int):=by
    rw [<- aT,S4 (by omega)]
    exact S4 (n:=i*cols+j) (by omega)
   rw [ew]
   obtain ⟨a,V,F⟩:=(rv'.mono K0 (Heap.le_trans e D.le)).sat q
   refine ⟨a,V,by omega,by omega,_,F,?_⟩
   refine R2 (ty:=Kt) Y9 D r c.symm (y:=ls (i*cols+j)) rfl (by decide) (by rw [c];omega) (by rw [c];omega) ?_
   intro A3 c3 h3 T o3 O s3 C _
   rw [c,wiS i (by omega)]
   refine ⟨⟨i+1,T,o3,_,A3,c3,by omega,by rw [dN],Heap.le_trans e O,s3,C,by rw [aC,c];rfl,?_⟩,?_⟩
   ·have Q:=Row.push (R:=SSr) (g:=T) (xs:=x) (f:=fun k=>ls (k%rows*cols+k/rows)) (by rw [c];exact m.mono K0 O) (w:=ls (i*cols+j)) (by
     show ls (i*cols+j)=ls (x.length%rows*cols+x.length/rows)
     rw [c,cL (j*rows) i,bD,cN d,bX _ _ (by omega),bL d,aM])
    rw [aC,c] at Q
    exact Q
   ·show rows-((i+1:Nat):Int).toNat<rows-(i:Int).toNat
    omega
  ·have:i=rows:=by omega
   subst this
   rw [wiS j (by omega),<- p]
   rw [<- p] at c m
   refine ⟨⟨j+1,W,o2,x,qA,qc,by omega,rfl,e,D,r,c,m⟩,?_⟩
   show cols-((j+1:Nat):Int).toNat<cols-(j:Int).toNat
   omega
 ·have:j=cols:=by omega
  subst this
  rw [aN j rows] at l E ⊢
  exact hK H rc t g o xs J s M l E
def OwnS(h h':aG)(A:Option aJ)(c n:Nat)(f:Nat->List UInt8):Prop:=∃ g o xs,h.le g/\Sep h' g o/\OwnSl o J0 A c xs/\xs.length=n/\Row SSr g xs n f
def Va(gl:Gl h)(rv':bB SSr h A n ls)(hn:n<=1000000)(hl:LL n ls)
 (hK1:∀ rows cols,MOk r c n ls rows cols->∀ h' A' c',OwnS h h' A' c' n (fun k=>ls (k%rows*cols+k/rows))->K (.tuple #[Xh c r A' n c',I 0]) h')
 (hK0:¬ Mx r c n ls->∀ h',h.le h'->K (.tuple #[Xh 0 0 none 0 0,I 1]) h'):aW prog Il #[Xh r c A n cap] h K:=by
 refine A29 _ _ _ _ _ ?_
 unfold Zs
 refine Uy gl rv' hn hl (fun g=>⟨_,rfl,?_⟩) (fun b=>⟨_,rfl,hK0 b h (B3 _)⟩)
 obtain ⟨rows,cols,mk⟩:=g
 have f:=hK1 rows cols mk
 obtain ⟨rfl,rfl,_,_,_,_,rfl,_⟩:=id mk
 have:=mk.r2;have:=mk.c2
 refine A3o rv' (by omega) (by omega) ?_
 intro A2 c2 j m q p e d l a o
 exact ⟨_,_,_,rfl,Heap.le_trans e d.le,f j A2 c2 ⟨m,q,p,e,d,l,a,o⟩⟩
end
def Br.nt{X Y:Prop}(y:Y):Br (!true) X Y:=y
def Me{X Y:Prop}(x:X):Br (!false) X Y:=x
structure MOut where
 r:Int
 c:Int
 n:Nat
 f:Nat->List UInt8
 e:Int
def noM(e:Int):MOut:=⟨0,0,0,fun _=>[],e⟩
section
variable {h:aG} {K:VP} {A B:Option aJ} {n n2 cap cap2 m w:Nat} {r c r2 c2:Int} {la lb:Nat->List UInt8}
end
structure VV where
 A:Option aJ
 n:Nat
 c:Nat
 s:Bool
 B:Option aJ
 bn:Nat
 bc:Nat
abbrev VV.v(w:VV):bY:=.agg #[.slice w.A w.n w.c,.bool w.s,.slice w.B w.bn w.bc]
instance:Enc VV:=⟨⟨fun w=>[.slice w.A w.n w.c,.bool w.s,.slice w.B w.bn w.bc],3,fun _=>rfl,fun w v hv=>by
 simp only [List.mem_cons,List.not_mem_nil,or_false] at hv
 rcases hv with rfl|rfl|rfl<;>rfl⟩⟩
def VQr(w:Nat):aG->VV->(Nat->Rat)->Prop:=fun h v f=>v.n=w/\ZI h v.s v.B v.bn v.bc (Bf f w:Int)/\bB ZIr h v.A w (fun j=>scl (f j) (Bf f w:Int))
def A3r(w:Nat):Mon (VQr w):=fun _ _ _ _ l i=>⟨i.1,i.2.1.mono l,i.2.2.mono Kh l⟩
section
variable {h:aG} {K:VP} {A B:Option aJ} {n cap m w:Nat} {f f2:Nat->Rat}
def Ux(gl:Gl h)(r:bB RQr h A n f)(hn:n<=10000)(hs:∀ i,i<n->Sz m (f i))(hm:1+n*m+m<=6400000000)
 (hK:∀ v h',h.le h'->VQr n h' v f->K v.v h'):aW prog Dg #[.slice A n cap] h K:=by
 refine A2a _ _ _ ?_
 unfold Zt
 have hd:=Ld (f:=f) n hs
 refine ⟨?_,?_⟩
 ·refine K8 tZs (zx:=(⟨false,none,0,0⟩:IV)) rfl (by omega) (by omega) (by omega) (by omega) ?_
  intro b N
  simp only [aH]
  have F:=(Sep.refl h).new N (.cells ((aO n (⟨false,none,0,0⟩:IV)).flatMap enc).toArray Fk)
  refine ⟨_,_,_,rfl,F.le,F.call (Dw gl r (by omega) hs hm ?_)⟩
  intro sd Bd S X x t id h1 E
  refine ⟨_,_,_,_,rfl,F.le_le E t,?_⟩
  refine ⟨fun L u=>∃ (k:Nat) (g o:aG) (d:List IV),k<=n/\L=[I (k:Int)]/\x.le g/\Sep u g o/\RowX o b d/\d.length=n/\Row ZIr g d k (fun j=>scl (f j) (Bf f n:Int)),fun L _=>n-(iAt L 0).toNat,⟨0,x,_,aO n ⟨false,none,0,0⟩,by omega,rfl,B3 _,E,RowX.mk,aP,Row.nil⟩,?_⟩
  rintro z u ⟨k,g,o,d,hk,J,c,s,D,B,C⟩
  obtain rfl:=sI1 J
  refine B6 (fun V=>?_) (fun Z=>?_)
  ·have l:k<n:=by omega
   obtain ⟨a,w,G,iw,c0,c1,c2,W⟩:=(r.mono K7 (Heap.le_trans t c)).qat l
   refine ⟨a,G,by omega,by omega,_,_,_,_,_,_,_,_,B5 s.le c0,B5 s.le c1,B5 s.le c2,B5 s.le W,?_⟩
   refine s.call (Kx (m:=1+n*m+m) iw (id.mono c) ((hs k l).mono (by omega)) (hd.mono (by omega)) hm ?_)
   intro O A2 Q c2 H p R h2 e
   refine ⟨_,_,_,_,rfl,s.le_le e p,_,rfl,by omega,by omega,?_⟩
   refine T7 A05 (y:=(⟨O,A2,Q,c2⟩:IV)) rfl e D (i:=k) (by omega) ?_
   intro h7 M x7 eo T q
   rw [wiS k (by omega)]
   exact ⟨⟨k+1,H,M,_,by omega,rfl,Heap.le_trans c p,T,q,by rw [cI];exact B,(C.mono Kh p).set (by omega) R⟩,by simp only [Cd];omega⟩
  ·have:k=n:=by omega
   subst this
   exact hK ⟨some ⟨b,0,none⟩,k,k,sd,Bd,S,X⟩ u (Heap.le_trans t (Heap.le_trans c s.le)) ⟨rfl,id.mono (Heap.le_trans c s.le),d,D.rowB.slF s.ole,B,C.mono Kh s.le⟩
 ·refine Dw gl r (by omega) hs hm ?_
  intro sd Bd S X x t id
  refine ⟨_,_,_,_,rfl,t,K8 tZs (zx:=(⟨false,none,0,0⟩:IV)) rfl (by omega) (by omega) (by omega) (by omega) ?_⟩
  intro b N
  simp only [aH]
  have E:=(Sep.refl x).new N (.cells ((aO n (⟨false,none,0,0⟩:IV)).flatMap enc).toArray Fk)
  refine ⟨_,_,_,rfl,E.le,?_⟩
  refine ⟨fun L u=>∃ (k:Nat) (g o:aG) (d:List IV),k<=n/\L=[I (k:Int)]/\x.le g/\Sep u g o/\RowX o b d/\d.length=n/\Row ZIr g d k (fun j=>scl (f j) (Bf f n:Int)),fun L _=>n-(iAt L 0).toNat,⟨0,x,_,aO n ⟨false,none,0,0⟩,by omega,rfl,B3 _,E,RowX.mk,aP,Row.nil⟩,?_⟩
  rintro z u ⟨k,g,o,d,hk,J,c,s,D,B,C⟩
  obtain rfl:=sI1 J
  refine B6 (fun V=>?_) (fun Z=>?_)
  ·have l:k<n:=by omega
   obtain ⟨a,w,G,iw,c0,c1,c2,W⟩:=(r.mono K7 (Heap.le_trans t c)).qat l
   refine ⟨a,G,by omega,by omega,_,_,_,_,_,_,_,_,B5 s.le c0,B5 s.le c1,B5 s.le c2,B5 s.le W,?_⟩
   refine s.call (Kx (m:=1+n*m+m) iw (id.mono c) ((hs k l).mono (by omega)) (hd.mono (by omega)) hm ?_)
   intro O A2 Q c2 H p R h2 e
   refine ⟨_,_,_,_,rfl,s.le_le e p,_,rfl,by omega,by omega,?_⟩
   refine T7 A05 (y:=(⟨O,A2,Q,c2⟩:IV)) rfl e D (i:=k) (by omega) ?_
   intro h7 M x7 eo T q
   rw [wiS k (by omega)]
   exact ⟨⟨k+1,H,M,_,by omega,rfl,Heap.le_trans c p,T,q,by rw [cI];exact B,(C.mono Kh p).set (by omega) R⟩,by simp only [Cd];omega⟩
  ·have:k=n:=by omega
   subst this
   exact hK ⟨some ⟨b,0,none⟩,k,k,sd,Bd,S,X⟩ u (Heap.le_trans t (Heap.le_trans c s.le)) ⟨rfl,id.mono (Heap.le_trans c s.le),d,D.rowB.slF s.ole,B,C.mono Kh s.le⟩
def smZ(x y:Nat->Int):Nat->Int
 | 0=>0
 | k+1=>smZ x y k+x k*y k
def smA(x y:Nat->Int):Nat->Int
 | 0=>0
 | k+1=>smA x y k+(x k*y k).natAbs
def B91{x y:Nat->Int}{m w:Nat}(hx:∀ j,j<w->ZB m (x j))(hy:∀ j,j<w->ZB m (y j)):∀ k,k<=w->smA x y k<=k*2^(2*m):=by
 intro k
 induction k with
 | zero=>intro _;simp [smA]
 | succ k ih=>
  intro c
  have d:=ih (by omega)
  have b:=A6b (hx k (by omega)) (hy k (by omega))
  have a:((k+1:Nat):Int)*2^(2*m)=(k:Int)*2^(2*m)+2^(2*m):=by rw [Int.natCast_add,Int.add_mul];simp
  show smA x y k+((x k*y k).natAbs:Int)<=_
  rw [a]
  omega
def C0q(x y:Nat->Int):∀ k,((smZ x y k).natAbs:Int)<=smA x y k:=by
 intro k
 induction k with
 | zero=>exact Int.le_refl _
 | succ k ih=>
  show ((smZ x y k+x k*y k).natAbs:Int)<=smA x y k+((x k*y k).natAbs:Int)
  omega
def C34{x y:Nat->Int}{m w:Nat}(hx:∀ j,j<w->ZB m (x j))(hy:∀ j,j<w->ZB m (y j))(hw:w<=10000):ZB (2*m+14) (smZ x y w):=by
 have b:=B91 hx hy w (aF _)
 have d:=C0q x y w
 have e:(2:Int)^(2*m)=((2^(2*m):Nat):Int):=by simp
 rw [e,<- aT] at b
 have c:w*2^(2*m)<=10000*2^(2*m):=aD _ hw
 have a:2^(2*m+14)=2^(2*m)*16384:=by rw [Nat.pow_add]
 have f:0<2^(2*m):=cY (by decide)
 unfold ZB
 rw [a]
 omega
def C35{p q:Nat->Rat}{x y:Nat->Int}{d e:Int}{w:Nat}(hx:∀ j,j<w->(x j:Rat)=p j*d)(hy:∀ j,j<w->(y j:Rat)=q j*e):∀ k,k<=w->(smZ x y k:Rat)=sm k (fun j=>p j*q j)*((d*e:Int):Rat):=by
 intro k
 induction k with
 | zero=>intro _;show ((0:Int):Rat)=0*_;rw [bO];rfl
 | succ k ih=>
  intro a
  show ((smZ x y k+x k*y k:Int):Rat)=(sm k (fun j=>p j*q j)+p k*q k)*((d*e:Int):Rat)
  rw [Rat.intCast_add,ih (by omega),bC d e,bC (x k) (y k),hx k (by omega),hy k (by omega)]
  grind
def Ye{v u:VV}(gl:Gl h)(iv:VQr w h v f)(iu:VQr w h u f2)(hw:w<=10000)(hs:∀ i,i<w->Sz m (f i))(hs2:∀ i,i<w->Sz m (f2 i))(hm1:1<=m)(hm:2*(1+w*m+m)+14<=100000000)
 (hK:∀ q h',h.le h'->RQ h' q (sm w (fun j=>f j*f2 j))->K q.v h'):aW prog Tr #[v.v,u.v] h K:=by
 refine B5u _ _ _ _ _ _ _ _ _ _ _ _ _ _ ?_
 unfold C05
 obtain ⟨Q,s,A⟩:=iv
 obtain ⟨af,B,E⟩:=iu
 have c:=Ld (f:=f) w hs
 have l:=Ld (f:=f2) w hs2
 have r:∀ j,j<w->ZB (1+w*m+m) (scl (f j) (Bf f w:Int)):=fun j e=>(B2d (hs j e) c).mono (by omega)
 have t:∀ j,j<w->ZB (1+w*m+m) (scl (f2 j) (Bf f2 w:Int)):=fun j e=>(B2d (hs2 j e) l).mono (by omega)
 refine Dn A82 ?_
 intro bs C
 have Z0:SumS (h.put bs (.cells #[.slice none 0 0,.slice none 0 0] Ks)) h bs Ks 200000001 0 0:=SumS.zero C
 refine ⟨_,rfl,fun L N=>∃ (k:Nat) (g:aG),k<=w/\L=[I (k:Int)]/\h.le g/\SumS N g bs Ks 200000001 (smA (fun j=>scl (f j) (Bf f w:Int)) (fun j=>scl (f2 j) (Bf f2 w:Int)) k) (smZ (fun j=>scl (f j) (Bf f w:Int)) (fun j=>scl (f2 j) (Bf f2 w:Int)) k),fun L _=>w-(iAt L 0).toNat,⟨0,h,by omega,rfl,B3 _,Z0⟩,?_⟩
 rintro z N ⟨k,g,hk,T,p,Z⟩
 obtain rfl:=sI1 T
 refine B6 (fun ad=>?_) (fun ae=>?_)
 ·have b:k<w:=by omega
  obtain ⟨a,x1,S,O,c0,c1⟩:=(A.mono Kh p).zat b
  obtain ⟨a2,y1,D,J,d0,d1⟩:=(E.mono Kh p).zat b
  refine ⟨a,S,by omega,by omega,_,_,_,_,B5 Z.le c0,B5 Z.le c1,a2,D,by omega,by omega,_,_,_,_,B5 Z.le d0,B5 Z.le d1,?_⟩
  have lx:x1.n<=100000000:=ZI.len O (r k b) (by omega)
  have ly:y1.n<=100000000:=ZI.len J (t k b) (by omega)
  have hA:=B91 r t (k+1) b
  have F:=B2t (m:=1+w*m+m) (k:=k+1) (by omega) (by omega)
  refine As Z O J (by omega) (by omega) (N1:=1+w*m+m) (by show smA _ _ (k+1)<_;omega) (by omega) ?_
  intro h3 g3 l3 Z3
  rw [wiS k (by omega)]
  exact ⟨rfl,⟨k+1,g3,by omega,rfl,Heap.le_trans p l3,Z3⟩,by simp only [Cd];omega⟩
 ·have:k=w:=by omega
  subst this
  refine Nd Z (by omega) ?_
  intro sv Av nv cv h5 H X
  have d:=Heap.le_trans p (Heap.le_trans Z.le H)
  refine ⟨_,_,_,_,rfl,H,?_⟩
  refine L4 (m:=1+k*m+m) (s.mono d) (B.mono d) (c.mono (by omega)) (l.mono (by omega)) (by omega) ?_
  intro s6 A6 n6 c6 h6 x z6
  refine ⟨_,_,_,_,rfl,x,?_⟩
  have o:=Heap.le_trans d x
  have e1:∀ j,j<k->(scl (f j) (Bf f k:Int):Rat)=f j*((Bf f k:Int):Rat):=fun j e=>B2e (Int.natCast_dvd_natCast.2 (A0s f k j e))
  have V:∀ j,j<k->(scl (f2 j) (Bf f2 k:Int):Rat)=f2 j*((Bf f2 k:Int):Rat):=fun j e=>B2e (Int.natCast_dvd_natCast.2 (A0s f2 k j e))
  have W:=C35 e1 V k (aF _)
  have ac:=A0r f k
  have aa:=A0r f2 k
  have y:((Bf f k:Int)*(Bf f2 k:Int))≠0:=Int.mul_ne_zero (by omega) (by omega)
  have zb:ZB (2*(1+k*m+m)+14) (smZ (fun j=>scl (f j) (Bf f k:Int)) (fun j=>scl (f2 j) (Bf f2 k:Int)) k):=C34 r t (by omega)
  refine Bl (m:=2*(1+k*m+m)+14) (gl.mono o).tz (X.mono x) z6 zb ((c.mul l).mono (by omega)) (by omega) ?_
  intro q R M G
  refine ⟨_,_,_,_,_,_,_,_,rfl,M,hK q R (Heap.le_trans o M) ?_⟩
  have:bZ (smZ (fun j=>scl (f j) (Bf f k:Int)) (fun j=>scl (f2 j) (Bf f2 k:Int)) k) ((Bf f k:Int)*(Bf f2 k:Int))=sm k (fun j=>f j*f2 j):=by
   rw [cK,W]
   exact Rat.mul_div_cancel (W8 y)
  rw [this] at G
  exact G
end
def B6v:prog.cellsOf My=1/\(prog.info? My).isSome=true:=by constructor<;>kernel_rfl
section
variable {h:aG} {K:VP} {A:Option aJ} {cap m rows cols:Nat} {E:Nat->Rat}
def Ht(gl:Gl h)(r:bB RQr h A (rows*cols) E)(hcap:rows*cols<=cap)(hr2:rows<=10000)(hc:1<=cols)(hc2:cols<=10000)(hs:∀ i,i<rows*cols->Sz m (E i))(hm:1+cols*m+m<=6400000000)
 (hK:∀ A' c' h',h.le h'->bB (VQr cols) h' A' rows (A3a E cols)->K (.slice A' rows c') h'):aW prog Et #[.slice A (rows*cols) cap,I (cols:Int)] h K:=by
 refine A7l _ _ _ _ ?_
 unfold A9g
 have ad:rows*cols<=100000000:=by
  have:rows*cols<=10000*10000:=aZ hr2 hc2
  omega
 refine Dn (z:=.slice none 0 0) (by kernel_rfl) ?_
 intro p F
 refine ⟨_,rfl,?_⟩
 have V:=(Sep.refl h).new F (.cells #[.slice none 0 0] My)
 refine V.call (Yx hc ?_)
 intro v O N ic ae s3
 have bound:∀ k,k<rows->∀ j,j<cols->Sz m (E (k*cols+j)):=fun k W j hj=>hs _ (Bg W hj)
 refine ⟨_,rfl,Uo ic hc (by omega) hcap (fun k T=>∃ (s q:aG) (g:List VV) (A1:Option aJ) (c1:Nat),O.le s/\Sep T s q/\(∃ e,q p=some (.cells #[.slice A1 k c1] e))/\OwnSl q Yd A1 c1 g/\A1≠some ⟨p,0,none⟩/\g.length=k/\Row (VQr cols) s g k (A3a E cols)) ?_ ?_ ?_ ?_⟩
 ·exact ⟨O,_,[],none,0,B3 _,s3,⟨_,B9 _ _ _⟩,OwnSl.nil,by simp,rfl,Row.nil⟩
 ·rintro k T ⟨s,q,g,A1,c1,X,s1,_⟩
  exact Heap.le_trans X s1.le
 ·rintro k d x ⟨s,q,g,A1,c1,a,n,⟨e,f⟩,C,Q,o,H⟩
  have bk:=bound k x
  have ac:(k+1)*cols<=rows*cols:=aD _ x
  have aa:(k+1)*cols=k*cols+cols:=by rw [aK,aL]
  have B:=Heap.le_trans N a
  have u:bB RQr h A ((k+1)*cols) E:=by
   have:=r.cut (c:=cap) (l:=0) (k:=(k+1)*cols) (by omega) hcap
   rw [H8] at this
   exact this.congr fun i _=>by rw [aM]
  have t:bB RQr h (J9 A ((k+1)*cols) (k*cols) 4) cols (A3a E cols k):=u.cut (c:=(k+1)*cols) (l:=k*cols) (k:=cols) (by omega) (aF _)
  have cp:d.cell? ⟨p,0,none⟩=some (.slice A1 k c1):=n.cell (by unfold Heap.cell?;simp only [f];rfl)
  refine ⟨_,_,_,rfl,_,_,_,cp,n.call (Ux (gl.mono B) (t.mono K7 B) (by omega) bk hm ?_)⟩
  intro w g2 L iw M R
  refine ⟨_,_,_,_,_,_,_,rfl,n.le_le R L,?_⟩
  subst o
  refine OwnSl.push (ty:=My) C54 R C (y:=w) (v:=w.v) rfl (by decide) (by omega) (by omega) (K1:=fun hq=>M.le hq) (fun _ l=>l) ?_
  intro A3 c3 h6 g6 o6 G s6 D kp
  have J:=kp p _ f Q
  show wpH _ (aU _ (.pointer (some (aE ⟨p,0,none⟩ 0))) _) _ _
  refine A21 B6v rfl rfl s6 J.1 (by simp) ?_
  intro h7 Z s7 S
  exact ⟨g6,Z,g++[w],A3,c3,Heap.le_trans a (Heap.le_trans L G),s7,⟨e,by rw [S,B9];simp⟩,D.keep fun b y hb he=>by rw [S,B8 _ _ (fun e=>J.2 (by rw [<- e];exact hb))];exact he,J.2,by simp,by
   have:=(Row.push (H.mono (A3r cols) (Heap.le_trans L G)) (A3r cols _ _ _ _ G iw))
   simpa using this⟩
 ·rintro d ⟨s,q,g,A1,c1,a,n,⟨e,f⟩,C,Q,o,H⟩
  have cp:d.cell? ⟨p,0,none⟩=some (.slice A1 rows c1):=n.cell (by unfold Heap.cell?;simp only [f];rfl)
  exact ⟨_,_,_,cp,hK A1 c1 d (Heap.le_trans N (Heap.le_trans a n.le)) ⟨g,C.slF n.ole,o,H.mono (A3r cols) n.le⟩⟩
end
section
variable {h:aG} {K:VP} {A B:Option aJ} {n n2 cap cap2 m:Nat} {r c r2 c2:Int} {la lb:Nat->List UInt8} {w:QV} {q:Rat}
end
section
variable {h:aG} {K:VP} {A B:Option aJ} {n w cap cap2 m:Nat} {f f2:Nat->Rat} {R:Nat->Nat->Rat}
def Uj(hs:∀ i,i<w->Sz m (f i))(hs2:∀ i,i<w->Sz m (f2 i)):∀ k,k<=w->Sz (1+k*(2*m+1)) (sm k (fun j=>f j*f2 j)):=by
 intro k
 induction k with
 | zero=>intro _;exact Sz.zero (by omega)
 | succ k ih=>
  intro c
  have b:=ih (by omega)
  have a:=(hs k (by omega)).mul (hs2 k (by omega))
  have e:1+(k+1)*(2*m+1)=1+k*(2*m+1)+(m+m)+1:=by rw [aK];omega
  rw [e]
  exact b.add a
def B3n(ra:bB NQr h A w f)(rb:bB NQr h B w f2)(hw:w<=10000)(hs:∀ i,i<w->Sz m (f i))(hs2:∀ i,i<w->Sz m (f2 i))(hm:1+w*(2*m+1)+2*m<=400000000)
 (hK:∀ v h',h.le h'->NQ h' v (sm w (fun j=>f j*f2 j))->K v.v h'):aW prog B3u #[.slice A w cap,.slice B w cap2] h K:=by
 refine C2o _ _ _ _ _ _ ?_
 unfold C72
 refine ⟨fun L u=>∃ (k:Nat) (v:QV),k<=w/\L=I (k:Int)::qc v/\h.le u/\NQ u v (sm k (fun j=>f j*f2 j)),fun L _=>w-(iAt L 0).toNat,⟨0,Ck,by omega,rfl,B3 _,NQ.zero⟩,?_⟩
 rintro z x g p r y e q o u ⟨k,v,D,t,l,E⟩
 simp only [bH,cQ,true_and] at t
 obtain ⟨rfl,t⟩:=t
 obtain ⟨rfl,_⟩:=C0y (by simpa only [bH,cF,bJ,and_true] using t:(.bool x:bY) :: .slice g p r :: .bool y :: .slice e q o::[]= .bool v.s :: .slice v.A v.n v.c :: .bool v.s2 :: .slice v.A2 v.n2 v.c2::[])
 refine B6 (fun W=>?_) (fun aa=>?_)
 ·have d:k<w:=by omega
  obtain ⟨M,Q,T,S,c0,c1,c2,c3⟩:=(ra.mono P8 l).qat d
  obtain ⟨Z,V,H,n6,N,g1,J,g3⟩:=(rb.mono P8 l).qat d
  have O:k*(2*m+1)<=w*(2*m+1):=aD _ D
  refine ⟨M,T,by omega,by omega,_,_,_,_,_,_,_,_,c0,c1,c2,c3,Z,H,by omega,by omega,_,_,_,_,_,_,_,_,N,g1,J,g3,?_⟩
  refine Nl (a:=Q) (b:=V) S n6 (hs k d) (hs2 k d) (by omega) ?_
  intro X h7 C G
  refine ⟨_,_,_,_,_,_,_,_,rfl,C,?_⟩
  refine Nn (a:=⟨x,g,p,r,y,e,q,o⟩) (b:=X) (m:=1+k*(2*m+1)+2*m) (NQ.mono C E) G ((Uj hs hs2 k D).mono (by omega)) (((hs k d).mul (hs2 k d)).mono (by omega)) (by omega) ?_
  intro R h8 F i8
  rw [wiS k (by omega)]
  refine ⟨_,_,_,_,_,_,_,_,rfl,F,⟨k+1,R,by omega,rfl,Heap.le_trans l (Heap.le_trans C F),i8⟩,?_⟩
  show w-((k+1:Nat):Int).toNat<w-(k:Int).toNat
  omega
 ·have:k=w:=by omega
  subst this
  exact hK ⟨x,g,p,r,y,e,q,o⟩ u l E
def A47(rs:RowsV h A n w R)(rx:bB NQr h B w f)(hn:n<=10000)(hw:w<=10000)(hs:∀ i j,i<n->j<w->Sz m (R i j))(hs2:∀ i,i<w->Sz m (f i))(hm:1+w*(2*m+1)+2*m<=400000000)
 (hK:∀ b h',Own NQr h h' b n (fun i=>sm w (fun j=>R i j*f j))->K (.slice (some ⟨b,0,none⟩) n n) h'):aW prog A8v #[.slice A n cap,.slice B w cap2] h K:=by
 refine C2p _ _ _ _ _ _ ?_
 unfold C73
 refine K8 Px (zx:=Ck) rfl (by omega) (by omega) (by omega) (by omega) ?_
 intro b E
 simp only [aH]
 refine ⟨_,_,_,rfl,fun L p=>∃ k:Nat,k<=n/\L=[I (k:Int)]/\OwnK NQr h p b n k (fun i=>sm w (fun j=>R i j*f j)),fun L _=>n-(iAt L 0).toNat,⟨0,by omega,rfl,OwnK.zero E⟩,?_⟩
 rintro z p ⟨k,S,D,g,o,Q,c,s,t,q,r⟩
 obtain rfl:=sI1 D
 refine B6 (fun M=>?_) (fun O=>?_)
 ·have a:k<n:=by omega
  obtain ⟨H,X,e,C,G,l,d⟩:=rs.at a
  refine ⟨H,e,by omega,by omega,_,_,_,B5 (Heap.le_trans c s.le) l,?_⟩
  rw [C]
  refine s.call (B3n (d.mono P8 c) (rx.mono P8 c) hw (fun j J=>hs k j a J) hs2 hm ?_)
  intro v V N x T F
  refine ⟨_,_,_,_,_,_,_,_,rfl,_,rfl,by omega,by omega,?_⟩
  refine OwnK.store P8 Ef (y:=v) c N F t q r a rfl x ?_
  intro W u
  rw [wiS k (by omega)]
  exact ⟨⟨k+1,by omega,rfl,u⟩,by simp only [Cd];omega⟩
 ·have:k=n:=by omega
  subst this
  exact hK b p ⟨g,o,Q,c,s,t,q,r⟩
end
structure VOut where
 n:Nat
 f:Nat->List UInt8
 e:Int
def noV(e:Int):VOut:=⟨0,fun _=>[],e⟩
def C5w(r c:Int)(n:Nat)(la:Nat->List UInt8)(n2:Nat)(lx:Nat->List UInt8)(o:VOut):Prop:=
 (¬ (Mx r c n la/\∀ i,i<n2->cR (lx i))/\o=noV 1)\/(Mx r c n la/\(∀ i,i<n2->cR (lx i))/\(n2:Int)≠c/\o=noV 4)\/(∃ rows cols,MOk r c n la rows cols/\(∀ i,i<n2->cR (lx i))/\(n2:Int)=c/\o=⟨rows,fun i=>I9 (sm cols (fun j=>mtx (rvs la) cols i j*rv (lx j))),0⟩)
section
variable {h:aG} {K:VP} {A B:Option aJ} {n n2 cap cap2 m:Nat} {r c:Int} {la lx:Nat->List UInt8}
end
section
variable {h:aG} {K:VP} {A B:Option aJ} {n n2 cap cap2 m:Nat} {r c:Int} {la lx:Nat->List UInt8}
def RowV.vat{w n:Nat}{f:Nat->Nat->Rat}(r:bB (VQr w) h A n f){i:Nat}(hi:i<n):∃ a v,A=some a/\VQr w h v (f i)/\h.cell? (aE (aE a (i*3)) 0)=some (.slice v.A v.n v.c)/\h.cell? (aE (aE a (i*3)) 1)=some (.bool v.s)/\h.cell? (aE (aE a (i*3)) 2)=some (.slice v.B v.bn v.bc):=by
 obtain ⟨a,v,e,q,b⟩:=RowV.at (by decide) r hi
 exact ⟨a,v,e,q,b 0 _ rfl,b 1 _ rfl,b 2 _ rfl⟩
def OwnS.none{h h':aG}{f:Nat->List UInt8}(l:h.le h'):OwnS h h' none 0 0 f:=⟨h',Cp,[],l,Sep.refl h',OwnSl.nil,rfl,Row.nil⟩
def Ru(gl:Gl h)(ra:bB SSr h A n la)(rx:bB SSr h B n2 lx)(hn:n<=1000000)(hn2:n2<=1000000)(hl:LL n la)(hl2:LL n2 lx)(hs:∀ i,i<n->Sz m (rv (la i)))(hs2:∀ i,i<n2->Sz m (rv (lx i)))(hm1:1<=m)(hm:∀ rows cols,MOk r c n la rows cols->2*(1+cols*(2*m+1)+2*m)+14<=40000000)
 (hK:∀ o,C5w r c n la n2 lx o->∀ A' cap' h',OwnS h h' A' cap' o.n o.f->K (.tuple #[.slice A' o.n cap',I o.e]) h'):aW prog Tt #[Xh r c A n cap,.slice B n2 cap2] h K:=by
 refine B5z _ _ _ _ _ _ _ _ ?_
 unfold C08
 have J:¬ (Mx r c n la/\∀ i,i<n2->cR (lx i))->∀ h',h.le h'->K (.tuple #[.slice none 0 0,I 1]) h':=fun hx h' l=>hK (noV 1) (.inl ⟨hx,rfl⟩) none 0 h' (OwnS.none l)
 refine Em gl ra hn hl (fun rows cols mk b1 h1 own=>?_) (fun F h1 E=>⟨_,_,_,_,rfl,?_⟩)
 ·have E:=own.le
  refine ⟨_,_,_,_,rfl,Ae (gl.mono E) (rx.mono K0 E) hn2 hl2 (fun t b2 H p=>⟨_,_,_,_,rfl,Br.nt (Br.nt ?_)⟩) (fun F H O=>⟨_,_,_,_,rfl,Br.nt (Me (J (fun x=>F x.2) H (Heap.le_trans E O)))⟩)⟩
  have O:=p.le
  have D:=Heap.le_trans E O
  refine I3 (fun e=>hK (noV 4) (.inr (.inl ⟨⟨_,_,mk⟩,t,e,rfl⟩)) none 0 H (OwnS.none D)) (fun e=>?_)
  have Q:=hK _ (.inr (.inr ⟨rows,cols,mk,t,e,rfl⟩))
  have:=mk.r1;have:=mk.r2;have:=mk.c1;have:=mk.c2
  obtain rfl:n2=cols:=by have:=mk.ec;omega
  obtain ⟨rfl,rfl,_,_,_,_,rfl,_⟩:=id mk
  have ms:=Rt hs
  have ad:=hm _ _ mk
  have ac:n2*m<=n2*(2*m+1):=Nat.mul_le_mul_left n2 (by omega)
  refine Ux (m:=m) (gl.mono D) (p.vis K7) (by omega) hs2 (by omega) ?_
  intro w h3 l3 iw
  refine ⟨_,_,_,_,_,_,_,rfl,?_⟩
  refine K8 Y9 (zx:=([]:List UInt8)) rfl (by omega) (by omega) (by omega) (by omega) ?_
  intro b hb
  simp only [aH]
  refine ⟨_,_,_,rfl,Sep.call ((Sep.refl h3).new hb _) (Ht (m:=m) (gl.mono (Heap.le_trans D l3)) ((own.vis K7).mono K7 (Heap.le_trans O l3)) (aF _) (by omega) (by omega) (by omega) hs (by omega) ?_)⟩
  intro A4 c4 g4 l4 X h4 s4
  have G:=Heap.le_trans D (Heap.le_trans l3 l4)
  refine ⟨_,_,_,rfl,fun L Z=>∃ (k:Nat) (g o:aG) (xs:List (List UInt8)) (A':Option aJ) (S:Nat),k<=rows/\L=[.slice A' k S,I (k:Int)]/\g4.le g/\Sep Z g o/\OwnSl o J0 A' S xs/\xs.length=k/\Row SSr g xs k (fun i=>I9 (sm n2 (fun j=>mtx (rvs la) n2 i j*rv (lx j)))),fun L _=>rows-(iAt L 1).toNat,
   ⟨0,g4,_,[],_,_,by omega,rfl,B3 _,s4,Kd,rfl,Row.nil⟩,?_⟩
  rintro rA C rc z Z ⟨k,g,o,xs,A',S,hk,eL,N,s,ow,d,rr⟩
  obtain ⟨⟨rfl,rfl,rfl⟩,rfl⟩:=sI2 eL
  refine B6 (fun ae=>?_) (fun af=>?_)
  ·have M:C<rows:=by omega
   obtain ⟨a,v,ea,iv,c0,c1,aa⟩:=(X.mono (A3r n2) N).vat M
   refine ⟨a,ea,by omega,by omega,_,_,_,_,_,_,_,B5 s.le c0,B5 s.le c1,B5 s.le aa,?_⟩
   refine s.call (Ye (m:=m) (v:=v) (u:=w) (gl.mono (Heap.le_trans G N)) iv (A3r n2 _ _ _ _ (Heap.le_trans l4 N) iw) (by omega) (fun j V=>ms C j M V) hs2 hm1 (by omega) ?_)
   intro q g5 T iq h5 s5
   refine ⟨_,_,_,_,_,_,_,_,rfl,s5.call (T2 (gl.mono (Heap.le_trans G (Heap.le_trans N T))).p10 iq (Uj (fun j V=>ms C j M V) hs2 n2 (aF _)) (by omega) ?_)⟩
   intro h6 s6
   refine ⟨_,rfl,?_⟩
   refine R2 (ty:=Kt) Y9 s6 ow d.symm (y:=I9 (sm n2 (fun j=>mtx (rvs la) n2 C j*rv (lx j)))) rfl (by decide) (by omega) (by omega) ?_
   intro A7 c7 h7 g7 o7 l7 s7 W _
   rw [d,wiS C (by omega)]
   refine ⟨⟨C+1,g7,o7,_,A7,c7,by omega,rfl,Heap.le_trans N (Heap.le_trans T l7),s7,W,by rw [aC,d];rfl,?_⟩,?_⟩
   ·have rB:=Row.push (R:=SSr) (g:=g7) (xs:=xs) (f:=fun i=>I9 (sm n2 (fun j=>mtx (rvs la) n2 i j*rv (lx j)))) (by rw [d];exact rr.mono K0 (Heap.le_trans T l7)) (w:=I9 (sm n2 (fun j=>mtx (rvs la) n2 C j*rv (lx j)))) (by rw [d])
    rw [aC,d] at rB
    exact rB
   ·show rows-((C+1:Nat):Int).toNat<rows-(C:Int).toNat
    omega
  ·have:C=rows:=by omega
   subst this
   exact Q rA rc Z ⟨g,o,xs,Heap.le_trans G N,s,ow,d,rr⟩
 ·refine Ae (gl.mono E) (rx.mono K0 E) hn2 hl2 (fun t b2 H p=>⟨_,_,_,_,rfl,Me (J (fun x=>F x.1) H (Heap.le_trans E p.le))⟩) (fun _ H O=>⟨_,_,_,_,rfl,Me (J (fun x=>F x.1) H (Heap.le_trans E O))⟩)
end
def C6z(r c:Int)(n:Nat)(la:Nat->List UInt8)(r2 c2:Int)(n2:Nat)(lb:Nat->List UInt8)(o:MOut):Prop:=
 (¬ (Mx r c n la/\Mx r2 c2 n2 lb)/\o=noM 1)\/(Mx r c n la/\Mx r2 c2 n2 lb/\c≠r2/\o=noM 4)\/(∃ rows mid cols,MOk r c n la rows mid/\MOk r2 c2 n2 lb mid cols/\o=⟨r,c2,rows*cols,fun k=>I9 (sm mid (fun j=>mtx (rvs la) mid (k/cols) j*mtx (rvs lb) cols j (k%cols))),0⟩)
def B0a{f f':Nat->Rat}: ∀ n,(∀ i,i<n->f i=f' i)->Bf f n=Bf f' n:=by
 intro n
 induction n with
 | zero=>intro _;rfl
 | succ n ih=>
  intro e
  show dU (Bf f n) (f n).den=dU (Bf f' n) (f' n).den
  rw [ih fun i a=>e i (by omega),e n (by omega)]
def VQr.congr{h:aG}{w:Nat}{v:VV}{f f':Nat->Rat}(x:VQr w h v f)(e:∀ i,i<w->f i=f' i):VQr w h v f':=by
 have d:Bf f w=Bf f' w:=B0a w e
 obtain ⟨a,b,c⟩:=x
 rw [d] at b c
 exact ⟨a,b,c.congr fun j g=>by rw [e j g]⟩
section
variable {h:aG} {K:VP} {A B:Option aJ} {n n2 cap cap2 m:Nat} {r c r2 c2:Int} {la lb:Nat->List UInt8} {E:Nat->Rat}
def Ns{rows cols:Nat}(rv':bB RQr h A (rows*cols) E)(hr:rows<=10000)(hc:cols<=10000)
 (hK:∀ A' c' h' g' o' xs,h.le g'->Sep h' g' o'->OwnSl o' K4 A' c' xs->xs.length=rows*cols->Row RQr g' xs (rows*cols) (fun k=>E (k%rows*cols+k/rows))->K (.slice A' (rows*cols) c') h'):aW prog V5 #[.slice A (rows*cols) cap,I (rows:Int),I (cols:Int)] h K:=by
 refine Xy _ _ _ _ _ ?_
 unfold Wz
 have ac:rows*cols<=10000*10000:=aZ hr hc
 refine K8 B25 (zx:=Ck) rfl (by omega) (by omega) (by omega) (by omega) ?_
 intro b hb
 simp only [aH]
 refine ⟨_,_,_,rfl,fun L u=>∃ (j:Nat) (g o:aG) (xs:List QV) (A':Option aJ) (c':Nat),j<=cols/\L=[.slice A' (j*rows) c',I (j:Int)]/\h.le g/\Sep u g o/\OwnSl o K4 A' c' xs/\xs.length=j*rows/\Row RQr g xs (j*rows) (fun k=>E (k%rows*cols+k/rows)),fun L _=>cols-(iAt L 1).toNat,
  ⟨0,h,Cp.put b _,[],some ⟨b,0,none⟩,rows*cols,by omega,by rw [cG];rfl,B3 _,Ci hb,Kd,by simp,by rw [cG];exact Row.nil⟩,?_⟩
 rintro O rn rc z u ⟨j,g,o,xs,A',c',hj,C,Q,s,S,l,F⟩
 obtain ⟨⟨rfl,rfl,rfl⟩,rfl⟩:=sI2 C
 refine B6 (fun ad=>?_) (fun ae=>?_)
 ·have x:j<cols:=by omega
  have q:(j+1)*rows=j*rows+rows:=by rw [aK,aL]
  have G:(j+1)*rows<=cols*rows:=aD _ x
  rw [aN cols rows] at G
  refine ⟨fun L u=>∃ (i:Nat) (g o:aG) (xs:List QV) (A':Option aJ) (c':Nat),i<=rows/\L=[.slice A' (j*rows+i) c',I (i:Int)]/\h.le g/\Sep u g o/\OwnSl o K4 A' c' xs/\xs.length=j*rows+i/\Row RQr g xs (j*rows+i) (fun k=>E (k%rows*cols+k/rows)),fun L _=>rows-(iAt L 1).toNat,
   ⟨0,g,o,xs,O,rc,by omega,rfl,Q,s,S,l,F⟩,?_⟩
  rintro qA qn qc z aa ⟨i,Z,o2,B,A2,c2,hi,C,e,p,t,c,m⟩
  obtain ⟨⟨rfl,rfl,rfl⟩,rfl⟩:=sI2 C
  refine B6 (fun W=>?_) (fun T=>?_)
  ·have d:i<rows:=by omega
   have r:=Bg d x
   have ew:B4 (B4 ((i:Int)*(cols:Int))+(j:Int))=((i*cols+j:Nat):Int):=by
    rw [<- aT,S4 (by omega)]
    exact S4 (n:=i*cols+j) (by omega)
   rw [ew]
   obtain ⟨a,w,X,iw,c0,c1,M,H⟩:=(rv'.mono K7 e).qat r
   refine ⟨a,X,by omega,by omega,_,_,_,_,_,_,_,_,B5 p.le c0,B5 p.le c1,B5 p.le M,B5 p.le H,?_⟩
   refine R2 (ty:=U3) B25 p t c.symm (y:=w) rfl (by decide) (by rw [c];omega) (by rw [c];omega) ?_
   intro A3 H h3 N o3 J s3 D _
   rw [c,wiS i (by omega)]
   refine ⟨⟨i+1,N,o3,_,A3,H,by omega,by rw [dN],Heap.le_trans e J,s3,D,by rw [aC,c];rfl,?_⟩,?_⟩
   ·have V:=Row.push (R:=RQr) (g:=N) (xs:=B) (f:=fun k=>E (k%rows*cols+k/rows)) (by rw [c];exact m.mono K7 J) (w:=w) (by
     show RQ N w (E (B.length%rows*cols+B.length/rows))
     rw [c,cL (j*rows) i,bD,cN d,bX _ _ (by omega),bL d,aM]
     exact K7 _ _ _ _ J iw)
    rw [aC,c] at V
    exact V
   ·show rows-((i+1:Nat):Int).toNat<rows-(i:Int).toNat
    omega
  ·have:i=rows:=by omega
   subst this
   rw [wiS j (by omega),<- q]
   rw [<- q] at c m
   refine ⟨⟨j+1,Z,o2,B,qA,qc,by omega,rfl,e,p,t,c,m⟩,?_⟩
   show cols-((j+1:Nat):Int).toNat<cols-(j:Int).toNat
   omega
 ·have:j=cols:=by omega
  subst this
  rw [aN j rows] at l F ⊢
  exact hK O rc u g o xs Q s S l F
def A3p{rows cols:Nat}(rv':bB RQr h A (rows*cols) E)(hr:rows<=10000)(hc:cols<=10000)
 (hK:∀ A' c' h',h.le h'->rows*cols<=c'->bB RQr h' A' (rows*cols) (fun k=>E (k%rows*cols+k/rows))->K (.slice A' (rows*cols) c') h'):aW prog V5 #[.slice A (rows*cols) cap,I (rows:Int),I (cols:Int)] h K:=
 Ns rv' hr hc fun A' c' h' _ _ e c s b a d=>hK A' c' h' (Heap.le_trans c s.le) (by have:=b.1;omega) ⟨e,b.slF s.ole,a,d.mono K7 s.le⟩
def B07{d:Nat}(gl:Gl h)(ra:bB SSr h A n la)(rb:bB SSr h B n2 lb)(hn:n<=1000000)(hn2:n2<=1000000)(hl:LL n la)(hl2:LL n2 lb)(hs:∀ i,i<n->Sz m (rv (la i)))(hs2:∀ i,i<n2->Sz m (rv (lb i)))(hm1:1<=m)(hd:∀ rows mid,MOk r c n la rows mid->mid<=d)(hm:2*(1+d*(2*m+1)+2*m)+14<=40000000)
 (hK:∀ o,C6z r c n la r2 c2 n2 lb o->∀ A' cap' h',h.le h'->bB SSr h' A' o.n o.f->K (.tuple #[Xh o.r o.c A' o.n cap',I o.e]) h'):aW prog A8t #[Xh r c A n cap,Xh r2 c2 B n2 cap2] h K:=by
 refine C2n _ _ _ _ _ _ _ _ _ _ ?_
 unfold C70
 have W:¬ (Mx r c n la/\Mx r2 c2 n2 lb)->∀ h',h.le h'->K (.tuple #[Xh 0 0 none 0 0,I 1]) h':=fun hx h' l=>hK (noM 1) (.inl ⟨hx,rfl⟩) none 0 h' l RowV.nil
 refine Em gl ra hn hl (fun rows mid mk b1 h1 own=>?_) (fun N h1 H=>⟨_,_,_,_,rfl,?_⟩)
 ·have H:=own.le
  refine ⟨_,_,_,_,rfl,Em (gl.mono H) (rb.mono K0 H) hn2 hl2 (fun C p E b2 X F=>⟨_,_,_,_,rfl,Br.nt (Br.nt ?_)⟩) (fun N X l2=>⟨_,_,_,_,rfl,Br.nt (Me (W (fun x=>N x.2) X (Heap.le_trans H l2)))⟩)⟩
  have l2:=F.le
  have S:=Heap.le_trans H l2
  refine I3 (fun e=>hK (noM 4) (.inr (.inl ⟨⟨_,_,mk⟩,⟨_,_,E⟩,e,rfl⟩)) none 0 X S RowV.nil) (fun e=>?_)
  obtain rfl:C=mid:=by have:=mk.ec;have:=E.er;omega
  have ag:=hK _ (.inr (.inr ⟨rows,C,p,mk,E,rfl⟩))
  have:=mk.r1;have:=mk.r2;have:=mk.c1;have:=mk.c2;have:=E.c1;have:=E.c2
  obtain ⟨rfl,rfl,_,_,_,_,rfl,_⟩:=id mk
  obtain ⟨rfl,rfl,_,_,_,_,rfl,_⟩:=id E
  clear e
  have ms:=Rt hs
  have ai:=Rt hs2
  have aj:=hd _ _ mk
  have a1:C*(2*m+1)<=d*(2*m+1):=aD _ aj
  have aw:C*m<=d*m:=aD _ aj
  have ax:d*(2*m+1)=2*(d*m)+d:=by rw [Nat.mul_add,Nat.mul_one,Nat.mul_left_comm]
  have a5:rows*p<=64*64:=aZ (by omega) (by omega)
  refine Ht (m:=m) (gl.mono S) ((own.vis K7).mono K7 l2) (aF _) (by omega) (by omega) (by omega) hs (by omega) ?_
  intro A3 c3 h3 l3 ar
  refine ⟨_,_,_,rfl,?_⟩
  refine A3p ((F.vis K7).mono K7 l3) (by omega) (by omega) ?_
  intro A4 c4 h4 l4 ae af
  refine ⟨_,_,_,rfl,l4,?_⟩
  have ak:=Heap.le_trans S (Heap.le_trans l3 l4)
  rw [aN C p] at af ae ⊢
  refine Ht (m:=m) (gl.mono ak) af ae (by omega) (by omega) (by omega) (fun i hi=>?_) (by omega) ?_
  ·have au:i/C<p:=cC (by rw [aN];exact hi)
   exact hs2 _ (Bg (dK i (show 0<C by omega)) au)
  intro A5 c5 h5 l5 O
  have ao:bB (VQr C) h5 A5 p (fun j i=>mtx (rvs lb) p i j):=by
   obtain ⟨vs,sv,el,rr⟩:=O
   refine ⟨vs,sv,el,fun j hj=>?_⟩
   obtain ⟨w,e1,hw⟩:=rr j hj
   refine ⟨w,e1,?_⟩
   have:=VQr.congr (f':=fun i=>mtx (rvs lb) p i j) hw fun i hi=>?_
   ·exact this
   ·show rvs lb ((j*C+i)%C*p+(j*C+i)/C)=rvs lb (i*p+j)
    rw [cL (j*C) i,bD,cN hi,bX _ _ (by omega),bL hi,aM]
  clear O
  refine ⟨_,_,_,rfl,l5,?_⟩
  have ac:=Heap.le_trans ak l5
  have av:=Heap.le_trans l4 l5
  have ap:B4 ((rows:Int)*(p:Int))=((rows*p:Nat):Int):=by rw [<- aT];exact S4 (by omega)
  rw [ap]
  refine K8 B25 (zx:=Ck) rfl (by omega) (by omega) (by omega) (by omega) ?_
  intro b hb
  simp only [aH]
  have sz:∀ i j,i<rows->j<p->Sz (1+d*(2*m+1)) (sm C (fun t=>mtx (rvs la) C i t*mtx (rvs lb) p t j)):=fun i j hi hj=>(Uj (f:=fun t=>mtx (rvs la) C i t) (f2:=fun t=>mtx (rvs lb) p t j) (fun t M=>ms i t hi M) (fun t M=>ai t j M hj) C (aF _)).mono (by omega)
  refine ⟨_,_,_,rfl,fun L hp=>∃ (k:Nat) (g o:aG) (xs:List QV) (A':Option aJ) (Z:Nat),k<=rows/\L=[.slice A' (k*p) Z,I (k:Int)]/\h5.le g/\Sep hp g o/\OwnSl o K4 A' Z xs/\xs.length=k*p/\Row RQr g xs (k*p) (fun k=>sm C (fun j=>mtx (rvs la) C (k/p) j*mtx (rvs lb) p j (k%p))),fun L _=>rows-(iAt L 1).toNat,
   ⟨0,h5,Cp.put b _,[],some ⟨b,0,none⟩,rows*p,by omega,by rw [cG];rfl,B3 _,Ci hb,Kd,by simp,by rw [cG];exact Row.nil⟩,?_⟩
  rintro rA rn rc z hp ⟨k,g,o,xs,A',Z,hk,eL,lg,s,ow,ad,rr⟩
  obtain ⟨⟨rfl,rfl,rfl⟩,rfl⟩:=sI2 eL
  refine B6 (fun a4=>?_) (fun a0=>?_)
  ·have T:k<rows:=by omega
   have al:(k+1)*p=k*p+p:=by rw [aK,aL]
   have a3:(k+1)*p<=rows*p:=aD _ T
   obtain ⟨a,v,ea,iv,c0,c1,aq⟩:=(ar.mono (A3r C) (Heap.le_trans av lg)).vat T
   refine ⟨a,ea,by omega,by omega,_,_,_,_,_,_,_,B5 s.le c0,B5 s.le c1,B5 s.le aq,?_⟩
   refine ⟨fun L hp=>∃ (j:Nat) (g' o:aG) (xs:List QV) (A':Option aJ) (Z:Nat),j<=p/\L=[.slice A' (k*p+j) Z,I (j:Int)]/\g.le g'/\Sep hp g' o/\OwnSl o K4 A' Z xs/\xs.length=k*p+j/\Row RQr g' xs (k*p+j) (fun k=>sm C (fun j=>mtx (rvs la) C (k/p) j*mtx (rvs lb) p j (k%p))),fun L _=>p-(iAt L 1).toNat,
    ⟨0,g,o,xs,rA,rc,by omega,rfl,B3 _,s,ow,ad,rr⟩,?_⟩
   rintro qA qn qc z a2 ⟨j,g2,o2,ys,A2,c2,hj,eL,G,s2,ah,D,V⟩
   obtain ⟨⟨rfl,rfl,rfl⟩,rfl⟩:=sI2 eL
   refine B6 (fun ay=>?_) (fun az=>?_)
   ·have J:j<p:=by omega
    obtain ⟨a6,u,an,iu,d0,d1,d2⟩:=(ao.mono (A3r C) (Heap.le_trans lg G)).vat J
    refine ⟨a6,an,by omega,by omega,_,_,_,_,_,_,_,B5 s2.le d0,B5 s2.le d1,B5 s2.le d2,?_⟩
    refine s2.call (Ye (m:=m) (v:=v) (u:=u) (gl.mono (Heap.le_trans ac (Heap.le_trans lg G))) (A3r C _ _ _ _ G iv) iu (by omega) (fun t M=>ms k t T M) (fun t M=>ai t j M J) hm1 (by omega) ?_)
    intro q g7 l7 iq h7 s7
    refine ⟨_,_,_,_,_,_,_,_,rfl,?_⟩
    refine R2 (ty:=U3) B25 s7 ah D.symm (y:=q) rfl (by decide) (by rw [D];omega) (by rw [D];omega) ?_
    intro A8 c8 h8 g8 o8 l8 s8 am _
    rw [D,wiS j (by omega)]
    refine ⟨⟨j+1,g8,o8,_,A8,c8,by omega,by rw [dN],Heap.le_trans G (Heap.le_trans l7 l8),s8,am,by rw [aC,D];rfl,?_⟩,?_⟩
    ·have rB:=Row.push (R:=RQr) (g:=g8) (xs:=ys) (f:=fun k=>sm C (fun j=>mtx (rvs la) C (k/p) j*mtx (rvs lb) p j (k%p))) (by rw [D];exact V.mono K7 (Heap.le_trans l7 l8)) (w:=q) (by
      show RQ g8 q (sm C (fun t=>mtx (rvs la) C (ys.length/p) t*mtx (rvs lb) p t (ys.length%p)))
      rw [D,cL (k*p) j,bD,cN J,bX _ _ (by omega),bL J,aM]
      exact K7 _ _ _ _ l8 iq)
     rw [aC,D] at rB
     exact rB
    ·show p-((j+1:Nat):Int).toNat<p-(j:Int).toNat
     omega
   ·have:j=p:=by omega
    subst this
    rw [wiS k (by omega),<- al]
    rw [<- al] at D V
    refine ⟨⟨k+1,g2,o2,ys,qA,qc,by omega,rfl,Heap.le_trans lg G,s2,ah,D,V⟩,?_⟩
    show rows-((k+1:Nat):Int).toNat<rows-(k:Int).toNat
    omega
  ·have:k=rows:=by omega
   subst this
   have aa:=Heap.le_trans ac (Heap.le_trans lg s.le)
   have rq:bB RQr hp rA (k*p) (fun t=>sm C (fun j=>mtx (rvs la) C (t/p) j*mtx (rvs lb) p j (t%p))):=⟨xs,ow.slF s.ole,ad,rr.mono K7 s.le⟩
   refine A6h (m:=1+d*(2*m+1)) (gl.mono aa) rq (by omega) (fun t M=>?_) (by omega) ?_
   ·exact sz _ _ (cC (by rw [aN];exact M)) (dK t (show 0<p by omega))
   intro b9 h9 Q
   exact ⟨_,_,_,_,_,rfl,ag _ _ h9 (Heap.le_trans aa Q.le) (Q.vis K0)⟩
 ·refine Em (gl.mono H) (rb.mono K0 H) hn2 hl2 (fun C p E b2 X F=>⟨_,_,_,_,rfl,Me (W (fun x=>N x.1) X (Heap.le_trans H F.le))⟩) (fun _ X l2=>⟨_,_,_,_,rfl,Me (W (fun x=>N x.1) X (Heap.le_trans H l2))⟩)
def B39(gl:Gl h)(ra:bB SSr h A n la)(rb:bB SSr h B n2 lb)(hn:n<=1000000)(hn2:n2<=1000000)(hl:LL n la)(hl2:LL n2 lb)(hs:∀ i,i<n->Sz m (rv (la i)))(hs2:∀ i,i<n2->Sz m (rv (lb i)))(hm1:1<=m)(hm:2*(1+64*(2*m+1)+2*m)+14<=40000000)
 (hK:∀ o,C6z r c n la r2 c2 n2 lb o->∀ A' cap' h',h.le h'->bB SSr h' A' o.n o.f->K (.tuple #[Xh o.r o.c A' o.n cap',I o.e]) h'):aW prog A8t #[Xh r c A n cap,Xh r2 c2 B n2 cap2] h K:=
 B07 gl ra rb hn hn2 hl hl2 hs hs2 hm1 (d:=64) (fun _ _ mk=>mk.c2) hm hK
end
def C5t(r c:Int)(n:Nat)(la:Nat->List UInt8)(n2:Nat)(lx:Nat->List UInt8)(o:VOut):Prop:=
 (¬ (Mx r c n la/\∀ i,i<n2->cR (lx i))/\o=noV 1)\/(Mx r c n la/\(∀ i,i<n2->cR (lx i))/\(n2:Int)≠r/\o=noV 4)\/(∃ rows cols,MOk r c n la rows cols/\(∀ i,i<n2->cR (lx i))/\(n2:Int)=r/\((Gw (rvs la) (rvs lx) rows cols/\o=⟨cols,fun i=>I9 (A33 (rvs la) (rvs lx) rows cols i),0⟩)\/(¬ Gw (rvs la) (rvs lx) rows cols/\o=noV 8)))
def C79(r c:Int)(n:Nat)(la:Nat->List UInt8)(n2:Nat)(lx:Nat->List UInt8)(e:Int)(ny:Nat)(fy:Nat->List UInt8):Prop:=
 (e≠8/\ny=0)\/(e=8/\∃ rows cols,MOk r c n la rows cols/\(∀ i,i<n2->cR (lx i))/\(n2:Int)=r/\¬ Gw (rvs la) (rvs lx) rows cols/\ny=rows/\fy=fun i=>I9 (A33 (A2i (rvs la) (rvs lx) rows cols) (B2m cols) (cols+1) rows i))
def Ng{E b:Nat->Rat}{rows cols m nq:Nat}(hs:∀ i,i<rows*cols->Sz m (E i))(hb:∀ i,i<rows->Sz m (b i))(hm:1<=m)(hnq:(Nh E b rows cols).cs.length<=nq):∀ j,Sz (7^nq*m) (A33 E b rows cols j):=
 C0r (m:=m) (A0k nq m hm) (C1i (n:=rows) (w:=cols+1) (c:=cols) (Rt (A7u hs hb)) hm (by omega) hnq (aF _)).1
def B2k{E b:Nat->Rat}{rows cols m:Nat}(hr:1<=rows)(hs:∀ i,i<rows*cols->Sz m (E i))(hb:∀ i,i<rows->Sz m (b i)):∀ i,i<(cols+1)*rows->Sz m (A2i E b rows cols i):=by
 intro i a
 rw [aK,aL] at a
 unfold A2i
 by_cases e:i<cols*rows
 ·rw [iP e]
  refine hs _ (Bg (dK i (by omega)) (cC (by rw [aN];exact e)))
 ·rw [iN e];exact hb _ (by omega)
def B2l{cols m:Nat}(hm:1<=m):∀ i,i<cols+1->Sz m (B2m cols i):=by
 intro i _
 unfold B2m
 split
 ·exact ⟨ZB.one hm,ZB.one hm⟩
 ·exact Sz.zero hm
section
variable {h:aG} {K:VP} {A B:Option aJ} {n n2 cap cap2 m:Nat} {r c:Int} {la lx:Nat->List UInt8}
def A3q(gl:Gl h)(ra:bB SSr h A n la)(rx:bB SSr h B n2 lx)(hn:n<=1000000)(hn2:n2<=1000000)(hl:LL n la)(hl2:LL n2 lx)(hs:∀ i,i<n->Sz m (rv (la i)))(hs2:∀ i,i<n2->Sz m (rv (lx i)))(hm1:1<=m)
 (hb1:∀ rows cols,MOk r c n la rows cols->∃ nq nk,(∀ j,j<=cols->(elE (G8 (rvs la) (rvs lx) cols) rows (cols+1) j).cs.length<=nq)/\(∀ j,j<=rows->(elE (G8 (A2i (rvs la) (rvs lx) rows cols) (B2m cols) rows) (cols+1) (rows+1) j).cs.length<=nk)/\2*(3^nq*bnd (cols+1) m)+1<=40000000/\2*(3^nk*bnd (rows+1) m)+1<=40000000/\7^nq*m<=40000000/\7^nk*m<=40000000)
 (hK:∀ o,C5t r c n la n2 lx o->∀ ny fy,C79 r c n la n2 lx o.e ny fy->∀ A' cap' A2 cap2' h',h.le h'->bB SSr h' A' o.n o.f->bB SSr h' A2 ny fy->K (.tuple #[.slice A' o.n cap',.slice A2 ny cap2',I o.e]) h'):aW prog A1f #[Xh r c A n cap,.slice B n2 cap2] h K:=by
 refine B5v _ _ _ _ _ _ _ _ ?_
 unfold C06
 have D:¬ (Mx r c n la/\∀ i,i<n2->cR (lx i))->∀ h',h.le h'->K (.tuple #[.slice none 0 0,.slice none 0 0,I 1]) h':=fun hx h' l=>hK (noV 1) (.inl ⟨hx,rfl⟩) 0 (fun _=>[]) (.inl ⟨by decide,rfl⟩) none 0 none 0 h' l RowV.nil RowV.nil
 refine Em gl ra hn hl (fun rows cols mk b1 h1 own=>?_) (fun g h1 u=>⟨_,_,_,_,rfl,?_⟩)
 ·have u:=own.le
  refine ⟨_,_,_,_,rfl,Ae (gl.mono u) (rx.mono K0 u) hn2 hl2 (fun a b2 C d=>⟨_,_,_,_,rfl,Br.nt (Br.nt ?_)⟩) (fun g C G=>⟨_,_,_,_,rfl,Br.nt (Me (D (fun x=>g x.2) C (Heap.le_trans u G)))⟩)⟩
  have G:=d.le
  have q:=Heap.le_trans u G
  refine I3 (fun e=>hK (noV 4) (.inr (.inl ⟨⟨_,_,mk⟩,a,e,rfl⟩)) 0 (fun _=>[]) (.inl ⟨by decide,rfl⟩) none 0 none 0 C q RowV.nil RowV.nil) (fun e=>?_)
  have Q:=fun x=>hK ⟨cols,fun i=>I9 (A33 (rvs la) (rvs lx) rows cols i),0⟩ (.inr (.inr ⟨rows,cols,mk,a,e,.inl ⟨x,rfl⟩⟩)) 0 (fun _=>[]) (.inl ⟨show (0:Int)≠8 by decide,rfl⟩)
  have ae:=fun w=>hK (noV 8) (.inr (.inr ⟨rows,cols,mk,a,e,.inr ⟨w,rfl⟩⟩)) rows (fun i=>I9 (A33 (A2i (rvs la) (rvs lx) rows cols) (B2m cols) (cols+1) rows i)) (.inr ⟨rfl,rows,cols,mk,a,e,w,rfl,rfl⟩)
  obtain ⟨nq,nk,u1,u2,k1,k2,k3,k4⟩:=hb1 rows cols mk
  have:=mk.r1;have:=mk.r2;have:=mk.c1;have:=mk.c2
  obtain rfl:n2=rows:=by have:=mk.er;omega
  obtain ⟨rfl,rfl,_,_,_,_,rfl,_⟩:=id mk
  have aj:n2*cols<=64*64:=aZ (by omega) (by omega)
  have hX:=Ng hs hs2 hm1 (u1 cols (aF _))
  refine Nt (nq:=nq) (E:=rvs la) (b:=rvs lx) (m:=m) (gl.mono q) ((own.vis K7).mono K7 G) (aF _) (d.vis K7) (aF _) (by omega) (by omega) (by omega) (by omega) hs hs2 u1 k1 (fun S b3 h3 H rq=>⟨_,_,_,_,rfl,?_⟩) (fun g h3 H=>⟨_,_,_,_,rfl,?_⟩)
  ·refine Hz (m:=7^nq*m) (gl.mono (Heap.le_trans q H)) rq (by omega) (fun i _=>hX i) k3 ?_
   intro b4 h4 z
   exact ⟨_,_,_,rfl,Q S _ _ none 0 h4 (Heap.le_trans q (Heap.le_trans H z.le)) (z.vis K0) RowV.nil⟩
  ·refine Ns ((own.vis K7).mono K7 (Heap.le_trans G H)) (by omega) (by omega) ?_
   intro A4 c4 h4 g4 o4 xs l4 s4 O p N
   refine ⟨_,_,_,rfl,?_⟩
   have ag:=Heap.le_trans q (Heap.le_trans H l4)
   obtain ⟨ys,sy,t,qy⟩:=(d.vis K7).mono K7 (Heap.le_trans H l4)
   refine OwnSl.app (ty:=U3) B25 s4 O p.symm t.symm (by rintro rfl;simp at t;omega) (sy.mono s4.le) (by rw [p,t];omega) (by rw [p,t];omega) ?_
   intro A5 c5 h5 g5 o5 T M L _
   refine ⟨_,_,_,rfl,?_⟩
   have e2:n2*cols+n2=(cols+1)*n2:=by rw [aK,aL,aN cols n2]
   have J:(xs++ys).length=(cols+1)*n2:=by rw [aC,p,t,e2]
   have r5:bB RQr h5 A5 ((cols+1)*n2) (A2i (rvs la) (rvs lx) n2 cols):=by
    refine ⟨xs++ys,L.slF M.ole,J,?_⟩
    rw [<- e2]
    refine Row.app p (((N.mono K7 T).mono K7 M.le).congr fun k hk=>?_) (((qy.mono K7 T).mono K7 M.le).congr fun k hk=>?_)
    ·unfold A2i
     rw [iP (by rw [aN];exact hk)]
    ·unfold A2i
     rw [aN cols n2,iN (by omega),cW]
   have ad:(cols+1)*n2<=c5:=by have:=L.1;omega
   have aa:=Heap.le_trans ag (Heap.le_trans T M.le)
   have ak:C.le h5:=Heap.le_trans H (Heap.le_trans l4 (Heap.le_trans T M.le))
   rw [p,e2]
   clear s4 O N M L qy sy
   have ew:B4 ((cols:Int)+1)=((cols+1:Nat):Int):=B7 (by omega) (by omega)
   rw [ew]
   refine K8 B25 (zx:=Ck) rfl (by omega) (by omega) (by omega) (by omega) ?_
   intro b6 W
   simp only [aH]
   have s6:=(Sep.refl h5).new W (.cells ((aO (cols+1) Ck).flatMap enc).toArray K4)
   refine ⟨_,_,_,rfl,s6.call (A5t ⟨by omega,by omega⟩ ?_)⟩
   intro w7 g7 l7 i7 h7 s7
   have one:((1:Int):Rat)=1:=rfl
   rw [one] at i7
   refine ⟨_,_,_,_,_,_,_,_,rfl,s6.le_le s7 l7,_,rfl,by omega,by omega,?_⟩
   refine T7 Ti (y:=w7) rfl s7 RowX.mk (i:=cols) (by rw [aP];omega) ?_
   intro h8 o8 x8 ah V af
   have F:=Heap.le_trans aa (Heap.le_trans l7 V.le)
   have ac:=Heap.le_trans l7 V.le
   have r0:Row RQr g7 (aO (cols+1) Ck) (cols+1) (fun _=>0):=fun i hi=>⟨Ck,by rw [cX,iP hi],RQ.zero⟩
   have r8:bB RQr h8 (some ⟨b6,0,none⟩) (cols+1) (B2m cols):=⟨_,af.rowB.slF V.ole,by rw [cI,aP],((r0.upd (by rw [aP];omega) i7).mono K7 V.le)⟩
   have X:=Ng (B2k (by omega) hs hs2) (B2l (cols:=cols) hm1) hm1 (u2 n2 (aF _))
   refine Nt (nq:=nk) (E:=A2i (rvs la) (rvs lx) n2 cols) (b:=B2m cols) (rows:=cols+1) (cols:=n2) (m:=m) (gl.mono F) (r5.mono K7 ac) ad r8 (aF _) (by omega) (by omega) (by omega) (by omega) (B2k (by omega) hs hs2) (B2l hm1) u2 k2 (fun S b9 h9 l9 rq=>⟨_,_,_,_,rfl,?_⟩) (fun R _ _=>absurd (C38 g) R)
   refine Hz (m:=7^nk*m) (gl.mono (Heap.le_trans F l9)) rq (by omega) (fun i _=>X i) k4 ?_
   intro ai Z s
   exact ⟨_,_,_,rfl,ae g none 0 _ _ Z (Heap.le_trans F (Heap.le_trans l9 s.le)) RowV.nil (s.vis K0)⟩
 ·refine Ae (gl.mono u) (rx.mono K0 u) hn2 hl2 (fun a b2 C d=>⟨_,_,_,_,rfl,Me (D (fun x=>g x.1) C (Heap.le_trans u d.le))⟩) (fun _ C G=>⟨_,_,_,_,rfl,Me (D (fun x=>g x.1) C (Heap.le_trans u G))⟩)
end
end Go.Proofs.YtmbfcbbkbefgfaaGreatDoor
namespace Go.Proofs.YtmbfcbbkbefgfaaGreatDoor
set_option maxRecDepth 20000
def ldA(A:Nat->Nat->Rat):Nat->Nat->Nat->Rat
 | 0=>A
 | k+1=>fun i j=>if ldA A k k k=0 then ldA A k i j else ldA A k i j-ldA A k i k*(ldA A k k j/ldA A k k k)
def C7a(n:Nat)(A:Nat->Nat->Rat):Prop:=∀ i j,i<n->j<n->A i j=A j i
structure LdR (n k:Nat) (A:Nat->Nat->Rat) (s:ES):Prop where
 len:s.cs.length<=k
 low:∀ i j,k<=i->i<n->j<n->s.R i j=ldA A k i j
 zero:∀ i j,s.cs.length<=i->i<k->j<n->s.R i j=0
def qf(n:Nat)(A:Nat->Nat->Rat)(x:Nat->Rat):Rat:=sm n fun i=>x i*sm n fun j=>A i j*x j
end Go.Proofs.YtmbfcbbkbefgfaaGreatDoor
namespace Go.Proofs.YtmbfcbbkbefgfaaGreatDoor
set_option maxRecDepth 20000
def B6s{k a:Nat}(ha:a<=k)(t:Nat->Rat):sm (k+1) t=t a+sm k (fun i=>t (rhx a i)):=by
 rw [B8z ha]
 have e:sm (k+1) t=sm (k+1) (fun i=>if i=a then t a else 0)+sm (k+1) (fun i=>if i=a then 0 else t i):=by
  rw [<- Uk]
  refine D7 fun i _=>?_
  by_cases c:i=a
  ·rw [iP c,iP c,c,bU]
  ·rw [iN c,iN c,dQ]
 rw [e,A31 (show a<k+1 by omega) fun i _ c=>iN c,iP rfl]
def C15:∀ (L:List (Nat->Rat)) (n:Nat),L.length<n->∃ x:Nat->Rat,(∃ j,j<n/\x j≠0)/\∀ f∈L,sm n (fun j=>f j*x j)=0:=by
 intro L
 generalize hm:L.length=m
 induction m generalizing L with
 | zero=>
  intro n s
  have:L=[]:=List.length_eq_zero_iff.1 hm
  subst this
  exact ⟨fun _=>1,⟨0,s,by decide +kernel⟩,fun f z=>by cases z⟩
 | succ m ih=>
  intro n s
  match L,hm with
  | f::L,hm=>
   have u:L.length=m:=by simpa using hm
   by_cases h:∀ j,j<n->f j=0
   ·obtain ⟨x,C,l⟩:=ih L u n (by omega)
    refine ⟨x,C,fun g r=>?_⟩
    rcases List.mem_cons.1 r with e|e
    ·rw [e];exact Fs fun j d=>by rw [h j d,bO]
    ·exact l g e
   ·have:∃ a,a<n/\f a≠0:=bG fun c=>h fun j d=>bG fun B=>c ⟨j,d,B⟩
    obtain ⟨a,E,D⟩:=this
    obtain ⟨k,rfl⟩:∃ k,n=k+1:=⟨n-1,by omega⟩
    obtain ⟨y,⟨j,d,w⟩,l⟩:=ih (L.map fun g=>fun j=>g (rhx a j)-g a/f a*f (rhx a j)) (by simpa using u) k (by omega)
    have o:∀ i,(if rhx a i<a then rhx a i else rhx a i-1)=i:=fun i=>by unfold rhx;repeat' split
                                                                       all_goals omega
    refine ⟨fun b=>if b=a then-(sm k (fun i=>f (rhx a i)*y i)/f a) else y (if b<a then b else b-1),⟨rhx a j,A3d d,?_⟩,fun g r=>?_⟩
    ·show (if rhx a j=a then _ else _)≠(0:Rat)
     rw [iN (B2i a j),o];exact w
    ·rw [B6s (show a<=k by omega)]
     have p:sm k (fun i=>g (rhx a i)*(if rhx a i=a then-(sm k (fun i=>f (rhx a i)*y i)/f a) else y (if rhx a i<a then rhx a i else rhx a i-1)))=sm k (fun i=>g (rhx a i)*y i):=D7 fun i _=>by rw [iN (B2i a i),o]
     show g a*(if a=a then _ else _)+sm k (fun i=>g (rhx a i)*(if rhx a i=a then _ else _))=0
     rw [iP rfl,p]
     rcases List.mem_cons.1 r with e|e
     ·rw [e]
      generalize sm k (fun i=>f (rhx a i)*y i)=q
      clear p h ih l
      grind
     ·have A:=l _ (List.mem_map.2 ⟨g,e,rfl⟩)
      have t:sm k (fun i=>(g (rhx a i)-g a/f a*f (rhx a i))*y i)=sm k (fun i=>g (rhx a i)*y i)-g a/f a*sm k (fun i=>f (rhx a i)*y i):=by
       rw [dA,<- Gz,<- A32,<- Uk]
       exact D7 fun i _=>by grind
      rw [t] at A
      generalize sm k (fun i=>f (rhx a i)*y i)=q at *
      generalize sm k (fun i=>g (rhx a i)*y i)=q' at *
      clear p h ih l t
      grind
def ev(n:Nat)(f x:Nat->Rat):Rat:=sm n fun j=>f j*x j
structure Diag (n:Nat) (A:Nat->Nat->Rat) (d:Nat->Rat) (F:Nat->Nat->Rat):Prop where
 val:∀ x,qf n A x=sm n fun m=>d m*(ev n (F m) x*ev n (F m) x)
 inj:∀ x,(∀ m,m<n->ev n (F m) x=0)->∀ j,j<n->x j=0
structure PD (n k:Nat) (A0:Nat->Nat->Rat) (d:Nat->Rat) (F A:Nat->Nat->Rat):Prop where
 val:∀ x,qf n A0 x=sm k (fun m=>d m*(ev n (F m) x*ev n (F m) x))+qf n A (fun i=>ev n (F i) x)
 inj:∀ x,(∀ m,m<n->ev n (F m) x=0)->∀ j,j<n->x j=0
 zero:∀ i j,i<n->j<n->i<k\/j<k->A i j=0
 symm:C7a n A
end Go.Proofs.YtmbfcbbkbefgfaaGreatDoor
namespace Go.Proofs.YtmbfcbbkbefgfaaGreatDoor
set_option maxRecDepth 20000
structure TE (n k:Nat) (R:Nat->Nat->Rat) (M:Nat->Nat->Int) (S:Nat->Rat) (last:Int):Prop where
 elim:∃ B R',(∀ i j,i<n->j<n->Wh (B i j))/\Elim n n B R' (fun m=>m) k/\(last:Rat)=dp B (fun m=>m) k/\∀ i j,k<=i->i<n->j<n->R' i j=S i*R i j
 ne:last≠0
 val:∀ i j,k<=i->i<n->j<n->(M i j:Rat)=last*(S i*R i j)
 scale:∀ i,k<=i->i<n->0<S i
end Go.Proofs.YtmbfcbbkbefgfaaGreatDoor
namespace Go.Proofs.YtmbfcbbkbefgfaaGreatDoor
set_option maxRecDepth 20000
def C33{n:Nat}(p:Nat->Rat)(q:Rat):sm n (fun t=>p t*q)=(sm n p)*q:=by
 rw [aV,<- Gz]
 exact D7 fun t _=>aV _ _
end Go.Proofs.YtmbfcbbkbefgfaaGreatDoor
namespace Go.Proofs.YtmbfcbbkbefgfaaGreatDoor
set_option maxRecDepth 20000
def prC(M:Nat->Nat->Rat)(w:Nat->Rat):Nat->Nat->Rat:=fun i j=>M j i/w i
def prP(m:Nat)(M:Nat->Nat->Rat)(w:Nat->Rat):Nat->Nat->Rat:=fun i j=>sm m fun t=>M i t*prC M w t j
def prR(m:Nat)(M:Nat->Nat->Rat)(b x:Nat->Rat):Nat->Rat:=fun i=>b i-sm m fun t=>M i t*x t
def prZ(n:Nat)(M:Nat->Nat->Rat)(w x y:Nat->Rat):Nat->Rat:=fun i=>x i+sm n fun j=>prC M w i j*y j
def B90{n m:Nat}(f:Nat->Rat)(C:Nat->Nat->Rat)(y:Nat->Rat):(sm m fun t=>f t*sm n fun j=>C t j*y j)=sm n fun j=>(sm m fun t=>f t*C t j)*y j:=by
 have e:(sm m fun t=>f t*sm n fun j=>C t j*y j)=sm m fun t=>sm n fun j=>f t*C t j*y j:=D7 fun t _=>by
  rw [<- Gz]
  exact D7 fun j _=>by grind
 rw [e,A5z]
 exact D7 fun j _=>C33 _ _
end Go.Proofs.YtmbfcbbkbefgfaaGreatDoor
namespace Go.Proofs.YtmbfcbbkbefgfaaGreatDoor
set_option maxRecDepth 20000
def B92{n w c q:Nat}{M P Q:Nat->Nat->Rat}(hc:c<=w)(hM:∀ i j,i<n->j<c->M i j=sm q fun t=>P i t*Q t j):(ecE M n c).cs.length<=q:=by
 refine bG fun p=>?_
 have h:=EqA.run (n:=n) (w:=w) M c hc
 have J:=h.len
 obtain ⟨T,F⟩:=h.comb
 obtain ⟨B,E,_⟩:=h.elim
 have r:=h.lt
 change ¬ (A87 n ⟨M,[],1⟩ c).cs.length<=q at p
 generalize A87 n ⟨M,[],1⟩ c=s at *
 obtain ⟨x,⟨a,b,A⟩,z⟩:=C15 ((List.range q).map fun t m=>Q t (s.cs.getD m 0)) s.cs.length (by rw [dI,List.length_range];omega)
 have g:∀ t,t<q->sm s.cs.length (fun m=>Q t (s.cs.getD m 0)*x m)=0:=fun t o=>z _ (List.mem_map.2 ⟨t,List.mem_range.2 o,rfl⟩)
 have f:∀ m,m<s.cs.length->s.cs.getD m 0<c:=fun m d=>by
  refine r _ ?_
  rw [aR,aI d]
  exact List.getElem_mem d
 have y:sm s.cs.length (fun m=>s.R a (s.cs.getD m 0)*x m)=x a:=by
  rw [A31 b fun m d u=>by rw [E.piv a m b d,iN (fun e=>u e.symm),bO],E.piv a a b b,iP rfl,cT]
 have G:sm s.cs.length (fun m=>s.R a (s.cs.getD m 0)*x m)=sm s.cs.length fun m=>(sm n fun l=>T a l*M l (s.cs.getD m 0))*x m:=D7 fun m d=>by rw [F a _ (by omega) (by have:=f m d;omega)]
 have C:(sm s.cs.length fun m=>(sm n fun l=>T a l*M l (s.cs.getD m 0))*x m)=sm n fun l=>T a l*sm s.cs.length fun m=>M l (s.cs.getD m 0)*x m:=(B90 (fun l=>T a l) (fun l m=>M l (s.cs.getD m 0)) x).symm
 have H:∀ l,l<n->(sm s.cs.length fun m=>M l (s.cs.getD m 0)*x m)=0:=fun l k=>by
  have D:(sm s.cs.length fun m=>M l (s.cs.getD m 0)*x m)=sm s.cs.length fun m=>(sm q fun t=>P l t*Q t (s.cs.getD m 0))*x m:=D7 fun m d=>by rw [hM l _ k (f m d)]
  rw [D,<- B90 (fun t=>P l t) (fun t m=>Q t (s.cs.getD m 0)) x]
  exact Fs fun t o=>by rw [g t o,aX]
 rw [G,C,Fs fun l k=>by rw [H l k,aX]] at y
 exact A y.symm
def prE(m n:Nat)(M:Nat->Nat->Rat)(w:Nat->Rat):Nat->Rat:=fun k=>prP m M w (k/n) (k%n)
def A6d{m n:Nat}(M:Nat->Nat->Rat)(w:Nat->Rat){i j:Nat}(hj:j<n):mtx (prE m n M w) n i j=prP m M w i j:=by
 obtain ⟨a,b⟩:=dm1 (i:=i) hj
 show prP m M w ((i*n+j)/n) ((i*n+j)%n)=_
 rw [a,b]
def A3i{m n j:Nat}(M:Nat->Nat->Rat)(w r:Nat->Rat)(hj:j<=n):(elE (G8 (prE m n M w) r n) n (n+1) j).cs.length<=m/\(elE (G8 (prE m n M w) r n) n (n+1) j).cs.length<=n:=by
 refine ⟨B92 (w:=n+1) (P:=M) (Q:=prC M w) (by omega) fun i k a b=>?_,dD (Ls _ n j).1 hj⟩
 rw [Hs _ _ (by omega),A6d M w (by omega)]
 rfl
def C12{m n j:Nat}(M:Nat->Nat->Rat)(w r:Nat->Rat)(hj:j<=n):(elE (G8 (A2i (prE m n M w) r n n) (B2m n) n) (n+1) (n+1) j).cs.length<=m+1/\(elE (G8 (A2i (prE m n M w) r n n) (B2m n) n) (n+1) (n+1) j).cs.length<=n:=by
 refine ⟨B92 (w:=n+1) (P:=fun i t=>if i<n then (if t<m then prC M w t i else 0) else (if t<m then 0 else 1)) (Q:=fun t k=>if t<m then M k t else r k) (by omega) fun i k c d=>?_,dD (Ls _ (n+1) j).1 hj⟩
 rw [Hs _ _ (by omega)]
 by_cases e:i<n
 ·rw [A8a _ _ e (by omega),A6d M w e]
  have b:(sm (m+1) fun t=>(if i<n then (if t<m then prC M w t i else 0) else (if t<m then 0 else 1))*(if t<m then M k t else r k))=(sm m fun t=>(if i<n then (if t<m then prC M w t i else 0) else (if t<m then 0 else 1))*(if t<m then M k t else r k))+(if i<n then (if m<m then prC M w m i else 0) else (if m<m then 0 else 1))*(if m<m then M k m else r k):=rfl
  rw [b,iP e,iN (aS m),iN (aS m),bO,bU]
  unfold prP
  exact D7 fun t a=>by rw [iP e,iP a,iP a];exact aV _ _
 ·have:i=n:=by omega
  subst this
  have b:(sm (m+1) fun t=>(if i<i then (if t<m then prC M w t i else 0) else (if t<m then 0 else 1))*(if t<m then M k t else r k))=(sm m fun t=>(if i<i then (if t<m then prC M w t i else 0) else (if t<m then 0 else 1))*(if t<m then M k t else r k))+(if i<i then (if m<m then prC M w m i else 0) else (if m<m then 0 else 1))*(if m<m then M k m else r k):=rfl
  rw [b,A3f,iN e,iN (aS m),iN (aS m),cT,Fs fun t a=>by rw [iN e,iP a,bO],dQ]
section
variable {m n s k Y:Nat} {M:Nat->Nat->Rat} {w b x y:Nat->Rat}
def Ut(hs1:1<=s)(hM:∀ i j,i<n->j<m->Sz s (M i j))(hw:∀ t,t<m->Sz s (w t)):∀ t i,t<m->i<n->Sz (2*s) (prC M w t i):=fun t i a b=>((hM i t b a).div (hw t a) hs1).mono (by omega)
def C3c(hs1:1<=s)(hM:∀ i j,i<n->j<m->Sz s (M i j))(hw:∀ t,t<m->Sz s (w t)):∀ i j,i<n->j<n->Sz (1+m*(2*(2*s)+1)) (prP m M w i j):=fun i j b c=>
 Uj (m:=2*s) (w:=m) (f:=fun t=>M i t) (f2:=fun t=>prC M w t j) (fun t a=>(hM i t b a).mono (by omega)) (fun t a=>Ut hs1 hM hw t j a c) m (aF m)
def B2s(hs1:1<=s)(hM:∀ i j,i<n->j<m->Sz s (M i j))(hw:∀ t,t<m->Sz s (w t)):∀ k,k<n*n->Sz (1+m*(2*(2*s)+1)) (prE m n M w k):=fun k b=>by
 have a:k/n<n:=cC b
 exact C3c hs1 hM hw _ _ a (dK k (Nat.lt_of_le_of_lt (bN _) a))
def C3b(hsk:s<=k)(hM:∀ i j,i<n->j<m->Sz s (M i j))(hb:∀ i,i<n->Sz k (b i))(hx:∀ t,t<m->Sz k (x t)):∀ i,i<n->Sz (1+m*(2*k+1)+k+1) (prR m M b x i):=fun i a=>by
 have d:=Uj (m:=k) (w:=m) (f:=fun t=>M i t) (f2:=x) (fun t c=>(hM i t a c).mono hsk) hx m (aF m)
 exact ((hb i a).sub d).mono (by omega)
def C3a(hs1:1<=s)(hsY:2*s<=Y)(hM:∀ i j,i<n->j<m->Sz s (M i j))(hw:∀ t,t<m->Sz s (w t))(hx:∀ t,t<m->Sz k (x t))(hy:∀ j,j<n->Sz Y (y j)):∀ i,i<m->Sz (1+n*(2*Y+1)+k+1) (prZ n M w x y i):=fun i a=>by
 have c:=Uj (m:=Y) (w:=n) (f:=fun j=>prC M w i j) (f2:=y) (fun j b=>(Ut hs1 hM hw i j a b).mono hsY) hy n (aF n)
 exact ((hx i a).add c).mono (by omega)
def B76{sx se nq:Nat}(hs1:1<=s)(hM:∀ i j,i<n->j<m->Sz s (M i j))(hw:∀ t,t<m->Sz s (w t))(hx:∀ t,t<m->Sz sx (x t))(q0:m<=nq\/n<=nq)(q1:2*s<=se)(q2:1+m*(2*(2*s)+1)<=se)(q3:∀ i,i<n->Sz se (prR m M b x i)):∀ i,i<m->Sz (1+n*(2*(7^nq*se)+1)+sx+1) (prZ n M w x (A33 (prE m n M w) (prR m M b x) n n) i):=by
 have a:=Ng (b:=prR m M b x) (fun k c=>(B2s (m:=m) hs1 hM hw k c).mono q2) q3 (by omega) (nq:=nq) (by
  obtain ⟨d,f⟩:=A3i (m:=m) M w (prR m M b x) (aF n)
  rcases q0 with q0|q0
  ·exact dD d q0
  ·exact dD f q0)
 have e:se<=7^nq*se:=dT se (cY (by decide))
 exact C3a hs1 (by omega) hM hw hx fun j _=>a j
end
structure CS where
 p':Int
 r':Int
 p:Int
 r:Int
def CS.next(s:CS)(a:Int):CS:=⟨s.p,s.r,s.p'+a*s.p,s.r'+a*s.r⟩
structure CSI (s:CS) (q x:Rat):Prop where
 det:s.p*s.r'-s.p'*s.r=1\/s.p*s.r'-s.p'*s.r= -1
 eq:q*(s.r*x+s.r')=s.p*x+s.p'
 r0:0<=s.r/\0<=s.r'/\0<s.r+s.r'
