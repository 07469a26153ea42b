/- A part. -/
import Derived.Test.YtmbfcbbkbefgfaaGreatDoorG27
import Derived.Test.YtmbfcbbkbefgfaaGreatDoorG28
open Go.Proofs.Tryz
set_option linter.all false
open _root_.Go.Addr renaming add->aC
open _root_.Go.Addr.mk renaming injEq->aP
open _root_.Go.Builtin renaming append_->aS
open _root_.Go.Instr renaming storeAt->aO,buildSlice->bC
open Int renaming toNat_natCast->aY,natCast_mul->bF,natAbs_natCast->cJ,gcd->cQ,mul_nonneg->cT,mul_le_mul->cU,sign_eq_zero_iff_zero->cV,mul_tdiv_cancel_left->cX,tdiv_eq_ediv_of_dvd->cZ
open List renaming length_append->aD,getElem?_eq_getElem->aH,getD_eq_getElem?_getD->aK,getElem?_append_left->aM,getElem?_append_right->aR,getElem?_set_ne->bB,toArray->bK,getElem?_set_self->bL,eq_nil_of_length_eq_zero->bO,append_assoc->cL,take_append_of_le_length->cN,replicate->cR
open List.cons renaming injEq->aX
open Nat renaming mul_le_mul_right->aF,le_refl->aG,add_mul->aL,zero_add->aN,one_mul->aQ,lt_irrefl->aU,mul_comm->bJ,zero_le->bY,le_succ_of_le->bZ,add_zero->cF,pow_le_pow_right->cG,mul_le_mul->cH,mul_assoc->cI,div_eq_of_lt->cM,mul_add_div->cP,add_sub_cancel_left->cY,pow_zero->dC,pow_succ->dD
open Option.some renaming injEq->aJ,inj->cO
open Rat renaming intCast_mul->aW,mul_zero->bH,add_zero->bI,divInt->bN,div_def->bW,divInt_eq_div->bX,mul_comm->cD,zero_mul->dB
open _root_.Go.Value renaming cells->bG,string->cK
open _root_.Go.Value.bool renaming injEq->bM
open _root_.Go.Value.int renaming injEq->bU
open _root_.Go.Value.slice renaming injEq->aT
open _root_.Go renaming Addr->aI,TypeId->aZ,Value->bD,Program->cC
open _root_.Go.Proofs.YtmbfcbbkbefgfaaGreatDoor renaming Heap->aE,FCall->aV,RowV->bV,IsNum->cW
namespace Go.Proofs.YtmbfcbbkbefgfaaGreatDoor
set_option maxRecDepth 20000
def sm:Nat->(Nat->Rat)->Rat
 | 0,_=>0
 | n+1,f=>sm n f+f n
def D0{n:Nat}{f g:Nat->Rat}(h:∀ i,i<n->f i=g i):sm n f=sm n g:=by
 induction n with
 | zero=>rfl
 | succ n ih=>rw [sm,sm,ih (fun i a=>h i (by omega)),h n (by omega)]
def Il{n:Nat}{f:Nat->Rat}(h:∀ i,i<n->f i=0):sm n f=0:=by
 induction n with
 | zero=>rfl
 | succ n ih=>rw [sm,ih (fun i a=>h i (by omega)),h n (by omega)];exact bI 0
def Ba(n:Nat)(f g:Nat->Rat):sm n (fun i=>f i+g i)=sm n f+sm n g:=by
 induction n with
 | zero=>simp only [sm];exact (bI 0).symm
 | succ n ih=>simp only [sm];rw [ih];grind
def Ez(n:Nat)(a:Rat)(f:Nat->Rat):sm n (fun i=>a*f i)=a*sm n f:=by
 induction n with
 | zero=>simp only [sm];grind
 | succ n ih=>simp only [sm];rw [ih];grind
def Nu(n:Nat)(f:Nat->Rat):sm n (fun i=> - f i)= - sm n f:=by
 induction n with
 | zero=>simp only [sm];grind
 | succ n ih=>simp only [sm];rw [ih];grind
def A65(n m:Nat)(f:Nat->Nat->Rat):sm n (fun i=>sm m (f i))=sm m (fun j=>sm n (fun i=>f i j)):=by
 induction n with
 | zero=>rw [sm];exact (Il fun _ _=>rfl).symm
 | succ n ih=>simp only [sm];rw [ih,<- Ba]
def Nt{n k:Nat}(hk:k<n){f:Nat->Rat}(h:∀ i,i<n->i≠k->f i=0):sm n f=f k:=by
 induction n with
 | zero=>omega
 | succ n ih=>
  rw [sm]
  by_cases e:k=n
  ·subst e;rw [Il fun i b=>h i (by omega) (by omega)];exact Rat.zero_add _
  ·rw [ih (by omega) fun i b a=>h i (by omega) a,h n (by omega) (by omega)];exact bI _
def rhx(l i:Nat):Nat:=if i<l then i else i+1
def B2h(l i:Nat):rhx l i≠l:=by unfold rhx;split<;>omega
def A3o{l i k:Nat}(hi:i<k):rhx l i<k+1:=by unfold rhx;split<;>omega
def B9j{k a:Nat}(ha:a<=k)(t:Nat->Rat):sm k (fun i=>t (rhx a i))=sm (k+1) (fun b=>if b=a then 0 else t b):=by
 induction k generalizing a with
 | zero=>
  show (0:Rat)=0+(if 0=a then 0 else t 0)
  rw [iP (by omega)];exact (bI 0).symm
 | succ k ih=>
  show sm k (fun i=>t (rhx a i))+t (rhx a k)=sm (k+1) (fun b=>if b=a then 0 else t b)+(if k+1=a then 0 else t (k+1))
  by_cases e:a=k+1
  ·rw [iP e.symm,bI]
   show sm k (fun i=>t (rhx a i))+t (rhx a k)=sm k (fun b=>if b=a then 0 else t b)+(if k=a then 0 else t k)
   rw [iN (by omega)]
   congr 1
   ·exact D0 fun i c=>by rw [rhx,iP (by omega),iN (by omega)]
   ·rw [rhx,iP (by omega)]
  ·rw [ih (by omega),iN (fun x=>e x.symm)]
   congr 1
   rw [rhx,iN (by omega)]
def sg(n:Nat):Rat:=if n%2=0 then 1 else -1
def dt:Nat->(Nat->Nat->Rat)->Rat
 | 0,_=>1
 | k+1,X=>sm (k+1) fun l=>sg (k+l)*X k l*dt k (fun c r=>X c (rhx l r))
def R1{k:Nat}: ∀ {X Y:Nat->Nat->Rat},(∀ c r,c<k->r<k->X c r=Y c r)->dt k X=dt k Y:=by
 induction k with
 | zero=>intros;rfl
 | succ k ih=>
  intro X Y h
  rw [dt,dt]
  refine D0 fun l b=>?_
  rw [h k l (by omega) b,ih fun c r d a=>h c (rhx l r) (by omega) (A3o a)]
def rc(X:Nat->Nat->Rat)(m:Nat)(y:Nat->Rat):Nat->Nat->Rat:=fun c r=>if c=m then y r else X c r
def Gj(X:Nat->Nat->Rat)(m:Nat)(y:Nat->Rat)(l:Nat):(fun c r=>rc X m y c (rhx l r))=rc (fun c r=>X c (rhx l r)) m (fun r=>y (rhx l r)):=by
 funext c r;unfold rc;split<;>rfl
def A4i{k:Nat}: ∀ (X:Nat->Nat->Rat) {m:Nat} (_:m<k) (y z:Nat->Rat),dt k (rc X m fun r=>y r+z r)=dt k (rc X m y)+dt k (rc X m z):=by
 induction k with
 | zero=>intros;omega
 | succ k ih=>
  intro X m d y z
  rw [dt,dt,dt,<- Ba]
  refine D0 fun l b=>?_
  by_cases e:m=k
  ·subst e
   have:∀ u:Nat->Rat,dt m (fun c r=>rc X m u c (rhx l r))=dt m (fun c r=>X c (rhx l r)):=fun u=>R1 fun c r a _=>by rw [rc,iN (by omega)]
   rw [this,this,this]
   simp only [rc,if_true]
   grind
  ·rw [Gj,Gj,Gj,ih _ (by omega)]
   simp only [rc,iN (fun x:k=m=>e x.symm)]
   grind
def B4a{k:Nat}: ∀ (X:Nat->Nat->Rat) {m:Nat} (_:m<k) (a:Rat) (y:Nat->Rat),dt k (rc X m fun r=>a*y r)=a*dt k (rc X m y):=by
 induction k with
 | zero=>intros;omega
 | succ k ih=>
  intro X m f a y
  rw [dt,dt,<- Ez]
  refine D0 fun l d=>?_
  by_cases e:m=k
  ·subst e
   have:∀ u:Nat->Rat,dt m (fun c r=>rc X m u c (rhx l r))=dt m (fun c r=>X c (rhx l r)):=fun u=>R1 fun c r b _=>by rw [rc,iN (by omega)]
   rw [this,this]
   simp only [rc,if_true]
   grind
  ·rw [Gj,Gj,ih _ (by omega)]
   simp only [rc,iN (fun x:k=m=>e x.symm)]
   grind
def C29{k:Nat}(X:Nat->Nat->Rat){m:Nat}(hm:m<k):dt k (rc X m fun _=>0)=0:=by
 have:=B4a X hm 0 (fun _=>0)
 rw [dB] at this
 simpa only [dB] using this
def C07{k:Nat}(X:Nat->Nat->Rat){m:Nat}(hm:m<k)(a:Nat->Rat)(Y:Nat->Nat->Rat):∀ n,dt k (rc X m fun r=>sm n fun t=>a t*Y t r)=sm n fun t=>a t*dt k (rc X m (Y t)):=by
 intro n
 induction n with
 | zero=>exact C29 X hm
 | succ n ih=>
  simp only [sm]
  rw [A4i X hm,ih,B4a X hm]
def A6f(X:Nat->Nat->Rat)(m:Nat):rc X m (X m)=X:=by
 funext c r;unfold rc;split
 ·rename_i e;rw [e]
 ·rfl
def A90{k:Nat}(X:Nat->Nat->Rat)(h:∀ r,r<k+2->X k r=X (k+1) r):dt (k+2) X=0:=by
 let mn:Nat->Nat->Rat:=fun a b=>dt k (fun c r=>X c (if a<b then rhx a (rhx (b-1) r) else rhx b (rhx (a-1) r)))
 let G:Nat->Nat->Rat:=fun a b=>if a=b then 0 else if b<a then sg (a+b)*X (k+1) a*X (k+1) b*mn a b else-(sg (a+b)*X (k+1) a*X (k+1) b*mn a b)
 have l:∀ a b,mn a b=mn b a:=by
  intro a b
  show dt k _=dt k _
  refine R1 fun c r _ _=>?_
  by_cases d:a<b
  ·rw [iP d,iN (by omega)]
  ·by_cases n:b<a
   ·rw [iN d,iP n]
   ·have:a=b:=by omega
    subst this;rfl
 have s:∀ a b,G b a= - G a b:=by
  intro a b
  show (if b=a then 0 else if a<b then _ else _)= - (if a=b then 0 else if b<a then _ else _)
  by_cases e:a=b
  ·rw [iP e,iP e.symm];grind
  ·rw [iN e,iN (fun x=>e x.symm)]
   have u:=l a b
   by_cases d:a<b
   ·rw [iP d,iN (by omega),Nat.add_comm b a];grind
   ·rw [iN d,iP (by omega),Nat.add_comm b a];grind
 have f:dt (k+2) X=sm (k+2) fun a=>sm (k+2) fun b=>G a b*sg (k+1+k):=by
  rw [dt]
  refine D0 fun a t=>?_
  have o:(fun b=>G a b*sg (k+1+k))=(fun b=>if b=a then 0 else (fun b=>G a b*sg (k+1+k)) b):=by
   funext b
   by_cases e:b=a
   ·subst e;rw [iP rfl];show (if b=b then 0 else _)*_=_;rw [iP rfl];grind
   ·rw [iN e]
  rw [o,<- B9j (by omega) (fun b=>G a b*sg (k+1+k)),dt,<- Ez]
  refine D0 fun i q=>?_
  have m:X k (rhx a i)=X (k+1) (rhx a i):=h _ (A3o q)
  have j:dt k (fun c r=>X c (rhx a (rhx i r)))=mn a (rhx a i):=by
   show _=dt k _
   refine R1 fun c r _ _=>?_
   by_cases d:i<a
   ·have g:rhx a i=i:=by rw [rhx,iP d]
    rw [g,iN (by omega)]
    congr 1
    simp only [rhx]
    repeat' split
    all_goals omega
   ·have g:rhx a i=i+1:=by rw [rhx,iN d]
    rw [g,iP (by omega),Nat.add_sub_cancel]
  rw [m,j]
  show _=(if a=rhx a i then 0 else if rhx a i<a then _ else _)*_
  rw [iN (fun e=>B2h a i e.symm)]
  have w:∀ x y:Nat,x%2=y%2->sg x=sg y:=fun x y e=>by unfold sg;rw [e]
  by_cases d:i<a
  ·have g:rhx a i=i:=by rw [rhx,iP d]
   rw [g,iP d]
   have p:sg (k+1+a)*sg (k+i)=sg (a+i)*sg (k+1+k):=by
    unfold sg
    repeat' split
    all_goals first|omega|grind
   grind
  ·have g:rhx a i=i+1:=by rw [rhx,iN d]
   rw [g,iN (by omega)]
   have p:sg (k+1+a)*sg (k+i)= - sg (a+(i+1))*sg (k+1+k):=by
    unfold sg
    repeat' split
    all_goals first|omega|grind
   grind
 have n:dt (k+2) X= - dt (k+2) X:=by
  have:dt (k+2) X=sm (k+2) fun a=>sm (k+2) fun b=>G b a*sg (k+1+k):=by
   rw [f];exact A65 _ _ _
  refine this.trans ?_
  rw [f,<- Nu]
  refine D0 fun a _=>?_
  rw [<- Nu]
  exact D0 fun b _=>by rw [s];grind
 grind
def C2b:∀ {k:Nat} (X:Nat->Nat->Rat) {p q:Nat} (_:p<q) (_:q<k) (_:∀ r,r<k->X p r=X q r),dt k X=0:=by
 intro k
 induction k with
 | zero=>intros;omega
 | succ k ih=>
  intro X p q f A h
  by_cases e:q=k
  ·subst e
   by_cases n:p+1=q
   ·subst n
    exact A90 X h
   ·
    obtain ⟨k',rfl⟩:∃ k',q=k'+1:=⟨q-1,by omega⟩
    have t:p<k':=by omega
    have swap:∀ (Z:Nat->Nat->Rat),dt (k'+1) (rc (rc Z p (Z k')) k' (Z p))= - dt (k'+1) Z:=by
     intro Z
     have i:∀ y:Nat->Rat,dt (k'+1) (rc (rc Z p y) k' y)=0:=fun y=>ih _ t (by omega) fun r _=>by
      unfold rc;rw [iN (by omega),iP rfl,iP rfl]
     have comm:∀ y z:Nat->Rat,rc (rc Z p y) k' z=rc (rc Z k' z) p y:=by
      intro y z;funext c r;unfold rc
      by_cases b:c=k'
      ·by_cases a:c=p
       ·omega
       ·rw [iP b,iN a,iP b]
      ·by_cases a:c=p
       ·rw [iN b,iP a,iP a]
       ·rw [iN b,iN a,iN a,iN b]
     have d:=i (fun r=>Z p r+Z k' r)
     rw [A4i _ (by omega)] at d
     rw [comm _ (Z p),comm _ (Z k'),A4i _ (by omega),A4i _ (by omega)] at d
     rw [<- comm,<- comm,<- comm,<- comm] at d
     rw [i (Z p),i (Z k')] at d
     have j:rc (rc Z p (Z p)) k' (Z k')=Z:=by rw [A6f,A6f]
     rw [j] at d
     grind
    have o:dt (k'+1+1) X= - dt (k'+1+1) (rc (rc X p (X k')) k' (X p)):=by
     rw [dt,dt,<- Nu]
     refine D0 fun l _=>?_
     have u:rc (rc X p (X k')) k' (X p) (k'+1) l=X (k'+1) l:=by unfold rc;rw [iN (by omega),iN (by omega)]
     have m:(fun c r=>rc (rc X p (X k')) k' (X p) c (rhx l r))=rc (rc (fun c r=>X c (rhx l r)) p (fun r=>X k' (rhx l r))) k' (fun r=>X p (rhx l r)):=by
      rw [Gj,Gj]
     have:=swap (fun c r=>X c (rhx l r))
     rw [u,m,this]
     grind
    rw [o,A90 _ fun r g=>?_]
    ·grind
    ·have s:rc (rc X p (X k')) k' (X p) k' r=X p r:=by unfold rc;rw [iP rfl]
     have w:rc (rc X p (X k')) k' (X p) (k'+1) r=X (k'+1) r:=by unfold rc;rw [iN (by omega),iN (by omega)]
     rw [s,w];exact h r g
  ·rw [dt]
   refine Il fun l _=>?_
   rw [ih _ f (by omega) fun r g=>h (rhx l r) (A3o g)]
   grind
def C2a{k:Nat}(X:Nat->Nat->Rat)(h:∀ r,r<k->X k r=0):dt (k+1) X=X k k*dt k X:=by
 rw [dt,Nt (k:=k) (by omega) fun i e a=>by rw [h i (by omega)];grind]
 have:dt k (fun c r=>X c (rhx k r))=dt k X:=R1 fun c r _ b=>by rw [rhx,iP b]
 have d:sg (k+k)=1:=by unfold sg;rw [iP (by omega)]
 rw [this,d,Rat.one_mul]
def Wh(q:Rat):Prop:=∃ z:Int,q=(z:Rat)
def Wh.add{p q:Rat}(hp:Wh p)(hq:Wh q):Wh (p+q):=by
 obtain ⟨a,rfl⟩:=hp;obtain ⟨b,rfl⟩:=hq
 exact ⟨a+b,by rw [Rat.intCast_add]⟩
def Wh.mul{p q:Rat}(hp:Wh p)(hq:Wh q):Wh (p*q):=by
 obtain ⟨a,rfl⟩:=hp;obtain ⟨b,rfl⟩:=hq
 exact ⟨a*b,by rw [aW]⟩
def Wh.sg(n:Nat):Wh (sg n):=by
 unfold Go.Proofs.YtmbfcbbkbefgfaaGreatDoor.sg
 split
 ·exact ⟨1,rfl⟩
 ·exact ⟨-1,by decide +kernel⟩
def Wh.sm{n:Nat}{f:Nat->Rat}(h:∀ i,i<n->Wh (f i)):Wh (sm n f):=by
 induction n with
 | zero=>exact ⟨0,rfl⟩
 | succ n ih=>exact (ih fun i a=>h i (by omega)).add (h n (by omega))
def C4a{k:Nat}: ∀ {X:Nat->Nat->Rat},(∀ c r,c<k->r<k->Wh (X c r))->Wh (dt k X):=by
 induction k with
 | zero=>intro X _;exact ⟨1,rfl⟩
 | succ k ih=>
  intro X h
  rw [dt]
  refine Wh.sm fun l b=>?_
  exact ((Wh.sg _).mul (h k l (by omega) b)).mul (ih fun c r d a=>h c _ (by omega) (A3o a))
structure Elim (n w:Nat) (B R:Nat->Nat->Rat) (cs:Nat->Nat) (k:Nat):Prop where
 kn:k<=n
 cw:∀ m,m<k->cs m<w
 piv:∀ l m,l<k->m<k->R l (cs m)=if l=m then 1 else 0
 low:∀ i m,i<n->k<=i->m<k->R i (cs m)=0
 top:∀ l j,l<k->j<w->B l j=sm k fun m=>B l (cs m)*R m j
 bot:∀ i j,i<n->k<=i->j<w->B i j=R i j+sm k fun m=>B i (cs m)*R m j
def dp(B:Nat->Nat->Rat)(cs:Nat->Nat)(k:Nat):Rat:=dt k fun c r=>B r (cs c)
section
variable {n w:Nat} {B R:Nat->Nat->Rat} {cs:Nat->Nat} {k:Nat}
def Elim.below(E:Elim n w B R cs k){i j:Nat}(hi:i<n)(hk:k<=i)(hj:j<w):dp B cs k*R i j=dt (k+1) fun c r=>B (if r<k then r else i) (if c<k then cs c else j):=by
 have f:(fun c r=>B (if r<k then r else i) (if c<k then cs c else j))=rc (fun c r=>B (if r<k then r else i) (cs c)) k (fun r=>B (if r<k then r else i) j)\/True:=.inr trivial
 clear f
 let X:Nat->Nat->Rat:=fun c r=>B (if r<k then r else i) (cs c)
 have e:dt (k+1) (fun c r=>B (if r<k then r else i) (if c<k then cs c else j))=dt (k+1) (rc X k fun r=>(sm k fun t=>R t j*X t r)+(if r<k then 0 else R i j)):=by
  refine R1 fun c r g b=>?_
  unfold rc
  by_cases h:c=k
  ·subst h
   rw [iN (aU c),iP rfl]
   show _=(sm c fun t=>R t j*X t r)+(if r<c then 0 else R i j)
   by_cases a:r<c
   ·rw [iP a,iP a,bI,E.top r j a hj]
    refine D0 fun m _=>?_
    show _=_*B (if r<c then r else i) (cs m)
    rw [iP a,cD]
   ·rw [iN a,iN a,E.bot i j hi hk hj,Rat.add_comm]
    congr 1
    refine D0 fun m _=>?_
    show _=_*B (if r<c then r else i) (cs m)
    rw [iN a,cD]
  ·rw [iN h,iP (show c<k by omega)]
 rw [e,A4i _ (by omega),C07 X (by omega) (fun t=>R t j) X]
 rw [Il fun t l=>by
  rw [C2b (rc X k (X t)) (p:=t) (q:=k) l (by omega) fun r _=>by unfold rc;rw [iN (by omega),iP rfl]]
  exact bH _]
 rw [C2a _ fun r b=>by unfold rc;rw [iP rfl];show (if r<k then 0 else R i j)=0;rw [iP b]]
 have d:dt k (rc X k fun r=>if r<k then 0 else R i j)=dp B cs k:=by
  refine R1 fun c r g b=>?_
  unfold rc
  rw [iN (by omega)]
  show B (if r<k then r else i) (cs c)=_
  rw [iP b]
 rw [d]
 unfold rc
 rw [iP rfl]
 show _=0+(if k<k then 0 else R i j)*_
 rw [iN (aU k)]
 grind
def Elim.above(E:Elim n w B R cs k){i j:Nat}(hi:i<k)(hj:j<w):dp B cs k*R i j=dt k (rc (fun c r=>B r (cs c)) i fun r=>B r j):=by
 let X:Nat->Nat->Rat:=fun c r=>B r (cs c)
 have a:dt k (rc X i fun r=>B r j)=dt k (rc X i fun r=>sm k fun t=>R t j*X t r):=by
  refine R1 fun c r f d=>?_
  unfold rc
  split
  ·show B r j=sm k fun t=>R t j*X t r
   rw [E.top r j d hj]
   exact D0 fun m _=>cD _ _
  ·rfl
 show _=dt k (rc X i fun r=>B r j)
 rw [a,C07 X hi (fun t=>R t j) X,Nt (k:=i) hi fun t b e=>?_]
 ·rw [A6f,cD];rfl
 ·rcases Nat.lt_or_ge t i with h|h
  ·rw [C2b (rc X i (X t)) (p:=t) (q:=i) h hi fun r _=>by unfold rc;rw [iN (by omega),iP rfl]]
   exact bH _
  ·rw [C2b (rc X i (X t)) (p:=i) (q:=t) (by omega) b fun r _=>by unfold rc;rw [iP rfl,iN (by omega)]]
   exact bH _
def Elim.whole(E:Elim n w B R cs k)(hB:∀ i j,i<n->j<w->Wh (B i j)){i j:Nat}(hi:i<n)(hj:j<w):Wh (dp B cs k*R i j):=by
 by_cases h:i<k
 ·rw [E.above h hj]
  refine C4a fun c r a b=>?_
  have:=E.kn
  unfold rc
  split
  ·exact hB r j (by omega) hj
  ·exact hB r _ (by omega) (E.cw c a)
 ·rw [E.below hi (by omega) hj]
  refine C4a fun c r a b=>?_
  refine hB _ _ ?_ ?_
  ·split<;>omega
  ·split
   ·exact E.cw c (by assumption)
   ·exact hj
def Elim.next(E:Elim n w B R cs k){j:Nat}(hk:k<n)(hj:j<w)(hc:cs k=j):dp B cs (k+1)=dp B cs k*R k j:=by
 rw [E.below hk (aG _) hj]
 refine R1 fun c r a e=>?_
 have b:(if r<k then r else k)=r:=by split<;>omega
 have d:(if c<k then cs c else j)=cs c:=by
  split
  ·rfl
  ·have:c=k:=by omega
   rw [this,hc]
 rw [b,d]
def Dl(R:Nat->Nat->Rat)(k j:Nat):Nat->Nat->Rat:=fun a b=>if a=k then R k b/R k j else R a b-R a j*(R k b/R k j)
def Elim.step(E:Elim n w B R cs k){j:Nat}(hk:k<n)(hj:j<w)(hc:cs k=j)(hne:R k j≠0):Elim n w B (Dl R k j) cs (k+1):=by
 have d:∀ m,m<k->R k (cs m)=0:=fun m o=>E.low k m hk (aG _) o
 have f:R k j/R k j=1:=by grind
 refine ⟨by omega,fun m o=>?_,fun l m z o=>?_,fun i m p u o=>?_,fun l b z q=>?_,fun i b p u q=>?_⟩
 ·by_cases e:m=k
  ·rw [e,hc];exact hj
  ·exact E.cw m (by omega)
 ·unfold Dl
  by_cases s:m=k
  ·subst s
   rw [hc]
   by_cases c:l=m
   ·rw [iP c,iP c];exact f
   ·rw [iN c,iN c,f];grind
  ·have a:m<k:=by omega
   rw [d m a]
   by_cases c:l=k
   ·subst c
    rw [iP rfl,iN (by omega)];grind
   ·rw [iN c,E.piv l m (by omega) a]
    grind
 ·unfold Dl
  rw [iN (by omega)]
  by_cases s:m=k
  ·subst s
   rw [hc,f];grind
  ·have a:m<k:=by omega
   rw [d m a,E.low i m p (by omega) a]
   grind
 ·rw [sm]
  have r:(Dl R k j) k b=R k b/R k j:=by unfold Dl;rw [iP rfl]
  have t:sm k (fun m=>B l (cs m)*Dl R k j m b)=sm k (fun m=>B l (cs m)*R m b)-sm k (fun m=>B l (cs m)*R m j)*(R k b/R k j):=by
   have:(fun m=>B l (cs m)*Dl R k j m b)=fun m=>if m=k then B l (cs k)*(R k b/R k j) else B l (cs m)*R m b+(-(R k b/R k j))*(B l (cs m)*R m j):=by
    funext m
    unfold Dl
    by_cases e:m=k
    ·rw [iP e,iP e,e]
    ·rw [iN e,iN e];grind
   rw [this,D0 (g:=fun m=>B l (cs m)*R m b+(-(R k b/R k j))*(B l (cs m)*R m j)) fun m o=>by rw [iN (by omega)]]
   rw [Ba,Ez];grind
  rw [r,t,hc]
  by_cases c:l=k
  ·subst c
   have t1:=E.bot l b hk (aG _) q
   have y:=E.bot l j hk (aG _) hj
   grind
  ·have t1:=E.top l b (by omega) q
   have y:=E.top l j (by omega) hj
   grind
 ·rw [sm]
  have r:(Dl R k j) k b=R k b/R k j:=by unfold Dl;rw [iP rfl]
  have t:sm k (fun m=>B i (cs m)*Dl R k j m b)=sm k (fun m=>B i (cs m)*R m b)-sm k (fun m=>B i (cs m)*R m j)*(R k b/R k j):=by
   have:(fun m=>B i (cs m)*Dl R k j m b)=fun m=>if m=k then B i (cs k)*(R k b/R k j) else B i (cs m)*R m b+(-(R k b/R k j))*(B i (cs m)*R m j):=by
    funext m
    unfold Dl
    by_cases e:m=k
    ·rw [iP e,iP e,e]
    ·rw [iN e,iN e];grind
   rw [this,D0 (g:=fun m=>B i (cs m)*R m b+(-(R k b/R k j))*(B i (cs m)*R m j)) fun m o=>by rw [iN (by omega)]]
   rw [Ba,Ez];grind
  have A:Dl R k j i b=R i b-R i j*(R k b/R k j):=by unfold Dl;rw [iN (by omega)]
  have t1:=E.bot i b p (by omega) q
  have y:=E.bot i j p (by omega) hj
  rw [r,t,A,hc]
  grind
def xch(k l:Nat)(i:Nat):Nat:=if i=k then l else if i=l then k else i
def Elim.swap(E:Elim n w B R cs k){l:Nat}(hk:k<=l)(hl:l<n):Elim n w (fun i=>B (xch k l i)) (fun i=>R (xch k l i)) cs k:=by
 have e:∀ i,i<k->xch k l i=i:=fun i f=>by unfold xch;rw [iN (by omega),iN (by omega)]
 have o:∀ i,i<n->k<=i->xch k l i<n/\k<=xch k l i:=fun i p q=>by unfold xch;split<;>(try split)<;>omega
 refine ⟨E.kn,E.cw,fun a m d b=>?_,fun i m f c b=>?_,fun a j d g=>?_,fun i j f c g=>?_⟩
 ·show R (xch k l a) _=_
  rw [e a d];exact E.piv a m d b
 ·have:=o i f c
  exact E.low _ m this.1 this.2 b
 ·show B (xch k l a) j=sm k fun m=>B (xch k l a) (cs m)*R (xch k l m) j
  rw [e a d,E.top a j d g]
  exact D0 fun m b=>by rw [e m b]
 ·have:=o i f c
  show B (xch k l i) j=R (xch k l i) j+sm k fun m=>B (xch k l i) (cs m)*R (xch k l m) j
  rw [E.bot _ j this.1 this.2 g]
  congr 1
  exact D0 fun m b=>by rw [e m b]
def C2c(B:Nat->Nat->Rat)(cs:Nat->Nat){k l:Nat}(hk:k<=l):dp (fun i=>B (xch k l i)) cs k=dp B cs k:=by
 refine R1 fun c r _ a=>?_
 show B (xch k l r) _=_
 unfold xch;rw [iN (by omega),iN (by omega)]
def Elim.start:Elim n w B B cs 0:=by
 refine ⟨bY _,fun m b=>by omega,fun l m a=>by omega,fun i m _ _ b=>by omega,fun l j a=>by omega,fun i j _ _ _=>by rw [sm,bI]⟩
def Elim.cs_congr{cs':Nat->Nat}(E:Elim n w B R cs k)(h:∀ m,m<k->cs m=cs' m):Elim n w B R cs' k:=by
 refine ⟨E.kn,fun m a=>by rw [<- h m a];exact E.cw m a,fun l m b a=>by rw [<- h m a];exact E.piv l m b a,fun i m d e a=>by rw [<- h m a];exact E.low i m d e a,fun l j b c=>?_,fun i j d e c=>?_⟩
 ·rw [E.top l j b c];exact D0 fun m a=>by rw [h m a]
 ·rw [E.bot i j d e c];congr 1;exact D0 fun m a=>by rw [h m a]
def B84{cs':Nat->Nat}(h:∀ m,m<k->cs m=cs' m):dp B cs k=dp B cs' k:=R1 fun c r a _=>by rw [h c a]
end
end Go.Proofs.YtmbfcbbkbefgfaaGreatDoor
namespace Go.Proofs.YtmbfcbbkbefgfaaGreatDoor
set_option maxRecDepth 20000
def fnd(p:Nat->Bool):Nat->Nat->Nat
 | 0,i=>i
 | f+1,i=>bif p i then i else fnd p f (i+1)
def A4b(p:Nat->Bool):∀ f i,i<=fnd p f i/\fnd p f i<=i+f:=by
 intro f
 induction f with
 | zero=>intro i;simp [fnd]
 | succ f ih=>
  intro i
  unfold fnd
  cases p i with
  | true=>simp
  | false=>have:=ih (i+1);simp only [cond_false];omega
def A1c(p:Nat->Bool):∀ f i,fnd p f i<i+f->p (fnd p f i)=true:=by
 intro f
 induction f with
 | zero=>intro i h;simp [fnd] at h
 | succ f ih=>
  intro i h
  unfold fnd at h ⊢
  cases hp:p i with
  | true=>simp only [hp,cond_true]
  | false=>simp only [hp,cond_false] at h ⊢;exact ih (i+1) (by omega)
def A1b(p:Nat->Bool):∀ f i j,i<=j->j<fnd p f i->p j=false:=by
 intro f
 induction f with
 | zero=>intro i j b a;simp [fnd] at a;omega
 | succ f ih=>
  intro i j b a
  unfold fnd at a
  cases hp:p i with
  | true=>simp only [hp,cond_true] at a;omega
  | false=>
   simp only [hp,cond_false] at a
   by_cases e:j=i
   ·rw [e];exact hp
   ·exact ih (i+1) j (by omega) a
def B3p{p q:Nat->Bool}: ∀ f i,(∀ j,i<=j->j<i+f->p j=q j)->fnd p f i=fnd q f i:=by
 intro f
 induction f with
 | zero=>intros;rfl
 | succ f ih=>
  intro i h
  unfold fnd
  rw [h i (by omega) (by omega),ih (i+1) fun j b a=>h j (by omega) (by omega)]
def A8k(p:Nat->Bool){f i k:Nat}(h1:i<=k)(h2:k<=i+f)(h3:∀ j,i<=j->j<k->p j=false)(h4:k<i+f->p k=true):fnd p f i=k:=by
 have a:=A4b p f i
 rcases Nat.lt_trichotomy (fnd p f i) k with h|h|h
 ·have:=A1c p f i (by omega);rw [h3 _ a.1 h] at this;cases this
 ·exact h
 ·have:=A1b p f i k h1 h;rw [h4 (by omega)] at this;cases this
structure ES where
 R:Nat->Nat->Rat
 cs:List Nat
 det:Rat
def elimE(R:Nat->Nat->Rat)(k j:Nat):Nat->Nat->Rat:=fun a b=>if a=k then R k b/R k j else if R a j=0\/b<j then R a b else R a b-R a j*(R k b/R k j)
def Gi(n c:Nat)(s:ES):Nat:=fnd (fun i=>decide (s.R i c≠0)) (n-s.cs.length) s.cs.length
def Ik(n c:Nat)(s:ES):ES:=
 if s.cs.length<n then
  if Gi n c s<n then
   { R:=elimE (fun i=>s.R (xch s.cs.length (Gi n c s) i)) s.cs.length c
     cs:=s.cs++[c]
     det:=(if Gi n c s=s.cs.length then s.det else-s.det)*s.R (Gi n c s) c }
  else { s with det:=0 }
 else s
def B1o(n:Nat)(s:ES):Nat->ES
 | 0=>s
 | c+1=>Ik n c (B1o n s c)
structure PS where
 M:Nat->Nat->Int
 S:Nat->Rat
 cs:List Nat
 last:Int
 sgn:Int
def clr(M:Nat->Nat->Int)(r c:Nat)(d:Int):Nat->Nat->Int:=fun a b=>if a=r then M r b else (M r c*M a b-M a c*M r b).tdiv d
def So(n c:Nat)(s:PS):Nat:=fnd (fun i=>decide (s.M i c≠0)) (n-s.cs.length) s.cs.length
def Eg(n c:Nat)(s:PS):PS:=
 if So n c s<n then
  { M:=clr (fun i=>s.M (xch s.cs.length (So n c s) i)) s.cs.length c s.last
    S:=fun i=>s.S (xch s.cs.length (So n c s) i)
    cs:=s.cs++[c]
    last:=s.M (So n c s) c
    sgn:=if So n c s=s.cs.length then s.sgn else-s.sgn }
 else s
def Dh(n:Nat)(s:PS):Nat->PS
 | 0=>s
 | c+1=>Eg n c (Dh n s c)
def pr:Nat->(Nat->Rat)->Rat
 | 0,_=>1
 | n+1,f=>pr n f*f n
def B7m{n:Nat}{f g:Nat->Rat}(h:∀ i,i<n->f i=g i):pr n f=pr n g:=by
 induction n with
 | zero=>rfl
 | succ n ih=>rw [pr,pr,ih (fun i a=>h i (by omega)),h n (by omega)]
def Ak(k l:Nat):xch k l k=l:=by unfold xch;rw [iP rfl]
def R8{k l i n:Nat}(hk:k<n)(hl:l<n)(hi:i<n):xch k l i<n:=by unfold xch;split<;>(try split)<;>omega
def A32{k l i:Nat}(hkl:k<=l)(hi:k<=i):k<=xch k l i:=by unfold xch;split<;>(try split)<;>omega
def Ay{k l i:Nat}(hkl:k<=l)(hi:i<k):xch k l i=i:=by unfold xch;rw [iN (by omega),iN (by omega)]
def Ue{x d z:Int}(hd:d≠0)(h:x=d*z):x.tdiv d=z:=by
 rw [h,cX _ hd]
structure ERel (n w c:Nat) (A:Nat->Nat->Rat) (s:ES) (t:PS):Prop where
 cs:s.cs=t.cs
 elim:∃ B,(∀ i j,i<n->j<w->Wh (B i j))/\Elim n w B (fun i j=>if i<s.cs.length then s.R i j else t.S i*s.R i j) (fun m=>s.cs.getD m 0) s.cs.length/\(t.last:Rat)=dp B (fun m=>s.cs.getD m 0) s.cs.length
 last:t.last≠0
 val:∀ i j,i<n->j<w->(t.M i j:Rat)=t.last*(if i<s.cs.length then s.R i j else t.S i*s.R i j)
 scale:∀ i,i<n->t.S i≠0
 zero:∀ i j,i<n->s.cs.length<=i->j<c->s.R i j=0
 asc:s.cs.length<=c
 det:s.cs.length=c->s.det*pr s.cs.length t.S=t.sgn*t.last
 miss:s.cs.length<c->s.cs.length<n->s.det=0
 sgn:t.sgn=1\/t.sgn= -1
def J7{z:Int}(h:z≠0):(z:Rat)≠0:=by
 intro e
 exact h (by exact_mod_cast e)
def ERel.start{n w:Nat}{A:Nat->Nat->Rat}{M:Nat->Nat->Int}{S:Nat->Rat}(h:∀ i j,i<n->j<w->(M i j:Rat)=S i*A i j)(hS:∀ i,i<n->S i≠0):ERel n w 0 A ⟨A,[],1⟩ ⟨M,S,[],1,1⟩:=by
 have e:∀ (x:Rat),((1:Int):Rat)*x=x:=fun x=>by
  have:((1:Int):Rat)=1:=rfl
  rw [this,Rat.one_mul]
 refine ⟨rfl,⟨fun i j=>S i*A i j,fun i j b a=>⟨M i j,(h i j b a).symm⟩,?_,rfl⟩,(by decide:(1:Int)≠0),fun i j b a=>?_,hS,fun i j _ _ a=>by omega,aG _,fun _=>?_,fun h=>by simp at h,.inl rfl⟩
 ·have:(fun i j=>if i<([]:List Nat).length then A i j else S i*A i j)=fun i j=>S i*A i j:=by
   funext i j;rw [iN (by simp)]
  show Elim n w _ (fun i j=>if i<([]:List Nat).length then A i j else S i*A i j) _ 0
  rw [this]
  exact Elim.start
 ·show (M i j:Rat)=((1:Int):Rat)*(if i<([]:List Nat).length then A i j else S i*A i j)
  rw [e,iN (by simp),h i j b a]
 ·show (1:Rat)*pr 0 S=((1:Int):Rat)*((1:Int):Rat)
  rw [e]
  exact Rat.one_mul _
def B3l(l:List Nat)(c:Nat):∀ m,m<l.length->(l++[c]).getD m 0=l.getD m 0:=by
 intro m a
 rw [aK,aK,aM a]
def B3m(l:List Nat)(c:Nat):(l++[c]).getD l.length 0=c:=by
 rw [aK,aR (aG _)];simp
def ERel.row{n w c:Nat}{A:Nat->Nat->Rat}{s:ES}{t:PS}(h:ERel n w c A s t)(hc:c<w):So n c t=Gi n c s:=by
 unfold So Gi
 rw [<- h.cs]
 refine B3p _ _ fun j k l=>?_
 have a:=h.val j c (by omega) hc
 rw [iN (by omega)] at a
 have i:=J7 h.last
 have g:=h.scale j (by omega)
 refine decide_eq_decide.2 (not_congr ⟨fun e=>?_,fun e=>?_⟩)
 ·rw [e] at a
  have f:((0:Int):Rat)=0:=rfl
  rw [f] at a
  rcases Rat.mul_eq_zero.1 a.symm with b|b
  ·exact absurd b i
  ·rcases Rat.mul_eq_zero.1 b with d|d
   ·exact absurd d g
   ·exact d
 ·rw [e,bH,bH] at a
  exact_mod_cast a
def ERel.step{n w c:Nat}{A:Nat->Nat->Rat}{s:ES}{t:PS}(h:ERel n w c A s t)(hc:c<w):ERel n w (c+1) A (Ik n c s) (Eg n c t):=by
 have ac:=h.row hc
 have a:=A4b (fun i=>decide (s.R i c≠0)) (n-s.cs.length) s.cs.length
 have F:=A1b (fun i=>decide (s.R i c≠0)) (n-s.cs.length) s.cs.length
 have Q:=A1c (fun i=>decide (s.R i c≠0)) (n-s.cs.length) s.cs.length
 have hR:fnd (fun i=>decide (s.R i c≠0)) (n-s.cs.length) s.cs.length=Gi n c s:=rfl
 rw [hR] at a F Q
 obtain ⟨B,hB,E,hD⟩:=h.elim
 unfold Ik Eg
 rw [ac]
 by_cases D:Gi n c s<n
 ·have o:s.cs.length<n:=by omega
  rw [iP o,iP D,iP D,<- h.cs]
  generalize hr:Gi n c s=r at *
  generalize hl:s.cs.length=k at *
  have ag:s.R r c≠0:=by
   have:=Q (by omega)
   simpa using this
  have E1:=E.swap (l:=r) a.1 D
  have N:∀ m,m<k->s.cs.getD m 0=(s.cs++[c]).getD m 0:=fun m hm=>(B3l s.cs c m (by omega)).symm
  have E2:=E1.cs_congr N
  have G:(s.cs++[c]).getD k 0=c:=by rw [<- hl];exact B3m _ _
  have f:(s.cs++[c]).length=k+1:=by rw [aD,hl];rfl
  have L:xch k r k=r:=Ak k r
  have ab:(if xch k r k<k then s.R (xch k r k) c else t.S (xch k r k)*s.R (xch k r k) c)=t.S r*s.R r c:=by rw [L,iN (by omega)]
  have ai:=h.scale r D
  have J:t.S r*s.R r c≠0:=by
   intro e
   rcases Rat.mul_eq_zero.1 e with e|e
   ·exact ai e
   ·exact ag e
  have E3:=E2.step (j:=c) o hc G (by show (if xch k r k<k then _ else _)≠0;rw [ab];exact J)
  have X:=E2.next (j:=c) o hc G
  have af:dp (fun i=>B (xch k r i)) (fun m=>(s.cs++[c]).getD m 0) k=(t.last:Rat):=by
   rw [hD,<- B84 N,C2c B _ a.1]
  rw [af] at X
  have ae:(if xch k r k<k then s.R (xch k r k) c else t.S (xch k r k)*s.R (xch k r k) c)=t.S r*s.R r c:=ab
  have q:(t.M r c:Rat)=t.last*(t.S r*s.R r c):=by
   have:=h.val r c D hc
   rw [iN (by omega)] at this;exact this
  have O:dp (fun i=>B (xch k r i)) (fun m=>(s.cs++[c]).getD m 0) (k+1)=(t.M r c:Rat):=by
   rw [X,q]
   show (t.last:Rat)*(if xch k r k<k then s.R (xch k r k) c else t.S (xch k r k)*s.R (xch k r k) c)=_
   rw [ae]
  have aa:=J7 h.last
  have ad:t.M r c≠0:=by
   intro e
   rw [e] at q
   have h0:((0:Int):Rat)=0:=rfl
   rw [h0] at q
   rcases Rat.mul_eq_zero.1 q.symm with e1|e1
   ·exact aa e1
   ·exact J e1
  have hz:∀ b,b<c->s.R r b=0:=fun b hb=>h.zero r b D (by omega) hb
  have hQ:∀ i j,(if i<k+1 then elimE (fun i=>s.R (xch k r i)) k c i j else t.S (xch k r i)*elimE (fun i=>s.R (xch k r i)) k c i j)=Dl (fun i j=>if xch k r i<k then s.R (xch k r i) j else t.S (xch k r i)*s.R (xch k r i) j) k c i j:=by
   intro i j
   unfold elimE Dl
   by_cases e:i=k
   ·subst e
    simp only [if_true,L,iN (show ¬ r<i by omega),iP (show i<i+1 by omega)]
    grind
   ·have hb:s.R r j=0\/¬ j<c:=by
     by_cases C:j<c
     ·exact .inl (hz j C)
     ·exact .inr C
    simp only [iN e,L,iN (show ¬ r<k by omega)]
    by_cases d:i<k
    ·rw [iP (show i<k+1 by omega),Ay a.1 d,iP d,iP d]
     split
     ·rename_i p
      rcases p with p|p
      ·rw [p];grind
      ·rw [hz j p];grind
     ·grind
    ·have V:¬ xch k r i<k:=by have:=A32 (i:=i) a.1 (by omega);omega
     rw [iN (show ¬ i<k+1 by omega),iN V,iN V]
     split
     ·rename_i p
      rcases p with p|p
      ·rw [p];grind
      ·rw [hz j p];grind
     ·grind
  have ah:(fun i j=>if i<k+1 then elimE (fun i=>s.R (xch k r i)) k c i j else t.S (xch k r i)*elimE (fun i=>s.R (xch k r i)) k c i j)=Dl (fun i j=>if xch k r i<k then s.R (xch k r i) j else t.S (xch k r i)*s.R (xch k r i) j) k c:=by
   funext i j;exact hQ i j
  have u:∀ i,i<n->xch k r i<n:=fun i d=>R8 o D d
  refine ⟨rfl,⟨fun i=>B (xch k r i),fun i j d C=>hB _ j (u i d) C,?_,?_⟩,ad,fun i j d C=>?_,fun i d=>h.scale _ (u i d),fun i j d y C=>?_,?_,fun T=>?_,fun T _=>?_,?_⟩
  ·show Elim n w _ (fun i j=>if i<(s.cs++[c]).length then elimE (fun i=>s.R (xch k r i)) k c i j else t.S (xch k r i)*elimE (fun i=>s.R (xch k r i)) k c i j) _ (s.cs++[c]).length
   rw [f,ah]
   exact E3
  ·show (t.M r c:Rat)=dp _ _ (s.cs++[c]).length
   rw [f,O]
  ·show (clr (fun i=>t.M (xch k r i)) k c t.last i j:Rat)=(t.M r c:Rat)*(if i<(s.cs++[c]).length then elimE (fun i=>s.R (xch k r i)) k c i j else t.S (xch k r i)*elimE (fun i=>s.R (xch k r i)) k c i j)
   rw [f,hQ i j]
   unfold clr
   by_cases e:i=k
   ·subst e
    rw [iP rfl]
    show (t.M (xch i r i) j:Rat)=_
    rw [L]
    unfold Dl
    simp only [if_true,L,iN (show ¬ r<i by omega)]
    have:=h.val r j D C
    rw [iN (by omega)] at this
    rw [this,q]
    grind
   ·rw [iN e]
    show (((t.M (xch k r k) c*t.M (xch k r i) j-t.M (xch k r i) c*t.M (xch k r k) j).tdiv t.last:Int):Rat)=_
    rw [L]
    have hw:=E3.whole (fun i j d C=>hB _ j (u i d) C) d C
    rw [O] at hw
    obtain ⟨z,W⟩:=hw
    have v1:=h.val (xch k r i) j (u i d) C
    have v2:=h.val (xch k r i) c (u i d) hc
    have v3:=h.val r j D C
    rw [hl] at v1 v2 v3
    rw [iN (show ¬ r<k by omega)] at v3
    have V:t.M r c*t.M (xch k r i) j-t.M (xch k r i) c*t.M r j=t.last*z:=by
     have:((t.M r c*t.M (xch k r i) j-t.M (xch k r i) c*t.M r j:Int):Rat)=((t.last*z:Int):Rat):=by
      rw [Rat.intCast_sub,aW,aW,aW,<- W,v1,v2,v3,q]
      unfold Dl
      simp only [iN e,L,iN (show ¬ r<k by omega)]
      generalize (if xch k r i<k then s.R (xch k r i) j else t.S (xch k r i)*s.R (xch k r i) j)=u1
      generalize (if xch k r i<k then s.R (xch k r i) c else t.S (xch k r i)*s.R (xch k r i) c)=u2
      have p:t.S r*s.R r j/(t.S r*s.R r c)*(t.S r*s.R r c)=t.S r*s.R r j:=by
       rw [Rat.div_mul_cancel J]
      grind
     exact_mod_cast this
    rw [Ue h.last V,<- W]
  ·show elimE (fun i=>s.R (xch k r i)) k c i j=0
   have aj:k+1<=i:=by
    have:(s.cs++[c]).length<=i:=y
    omega
   have al:=A32 (i:=i) a.1 (show k<=i by omega)
   unfold elimE
   rw [iN (by omega)]
   simp only [L]
   by_cases e:j=c
   ·subst e
    split
    ·rename_i p
     rcases p with p|p
     ·exact p
     ·omega
    ·grind
   ·rw [iP (.inr (by omega))]
    exact h.zero _ j (u i d) (by omega) (by omega)
  ·show (s.cs++[c]).length<=c+1
   have:=h.asc
   omega
  ·show (if r=k then s.det else -s.det)*s.R r c*pr (s.cs++[c]).length (fun i=>t.S (xch k r i))=((if r=k then t.sgn else -t.sgn:Int):Rat)*(t.M r c:Rat)
   have ak:k=c:=by
    have:(s.cs++[c]).length=c+1:=T
    omega
   have hd:=h.det (by omega)
   rw [hl] at hd
   rw [f,pr,L,B7m (g:=t.S) fun i d=>by rw [Ay a.1 d],q]
   by_cases e:r=k
   ·rw [iP e,iP e];grind
   ·rw [iN e,iN e,Rat.intCast_neg];grind
  ·show (if r=k then s.det else -s.det)*s.R r c=0
   have:(s.cs++[c]).length<c+1:=T
   have hd:=h.miss (by omega) (by omega)
   rw [hd]
   split<;>grind
  ·show (if r=k then t.sgn else -t.sgn)=1\/(if r=k then t.sgn else -t.sgn)= -1
   have:=h.sgn
   split<;>omega
 ·rw [iN D,iN D]
  have Z:∀ i,i<n->s.cs.length<=i->s.R i c=0:=by
   intro i d y
   have:=F i y (by omega)
   simpa using this
  have H:∀ i j,i<n->s.cs.length<=i->j<c+1->s.R i j=0:=by
   intro i j d y C
   by_cases e:j=c
   ·rw [e];exact Z i d y
   ·exact h.zero i j d y (by omega)
  by_cases o:s.cs.length<n
  ·rw [iP o]
   exact ⟨h.cs,⟨B,hB,E,hD⟩,h.last,h.val,h.scale,H,bZ h.asc,fun T=>by have:=h.asc;have:s.cs.length=c+1:=T;omega,fun _ _=>rfl,h.sgn⟩
  ·rw [iN o]
   exact ⟨h.cs,⟨B,hB,E,hD⟩,h.last,h.val,h.scale,H,bZ h.asc,fun T=>by have:=h.asc;omega,fun _ V=>absurd V o,h.sgn⟩
def ERel.run{n w:Nat}{A:Nat->Nat->Rat}{s:ES}{t:PS}(h:ERel n w 0 A s t):∀ c,c<=w->ERel n w c A (B1o n s c) (Dh n t c):=by
 intro c
 induction c with
 | zero=>exact fun _=>h
 | succ c ih=>exact fun a=>(ih (by omega)).step (by omega)
end Go.Proofs.YtmbfcbbkbefgfaaGreatDoor
namespace Go.Proofs.YtmbfcbbkbefgfaaGreatDoor
set_option maxRecDepth 20000
def Sz.elimE{n w k j m:Nat}{R:Nat->Nat->Rat}(hR:∀ a b,a<n->b<w->Sz m (R a b))(hk:k<n)(hj:j<w)(hm:1<=m){a b:Nat}(ha:a<n)(hb:b<w):Sz (7*m) (elimE R k j a b):=by
 have c:Sz (m+m) (R k b/R k j):=(hR k b hk hb).div (hR k j hk hj) hm
 unfold Go.Proofs.YtmbfcbbkbefgfaaGreatDoor.elimE
 split
 ·exact c.mono (by omega)
 ·split
  ·exact (hR a b ha hb).mono (by omega)
  ·exact ((hR a b ha hb).sub ((hR a j ha hj).mul c)).mono (by omega)
def C1p(n c:Nat)(s:ES)(h:s.cs.length<=n):s.cs.length<=Gi n c s/\Gi n c s<=n:=by
 have:=A4b (fun i=>decide (s.R i c≠0)) (n-s.cs.length) s.cs.length
 unfold Gi
 omega
structure SzE (n w m:Nat) (s:ES):Prop where
 R:∀ a b,a<n->b<w->Sz (7^s.cs.length*m) (s.R a b)
 det:Sz (7^s.cs.length*m) s.det
 len:s.cs.length<=n
def A88(k m:Nat)(hm:1<=m):1<=7^k*m:=by
 have:0<7^k:=Nat.pow_pos (by decide)
 exact Nat.mul_pos this hm
def SzE.step{n w m c:Nat}{s:ES}(h:SzE n w m s)(hm:1<=m)(hc:c<w):SzE n w m (Ik n c s):=by
 have l:=C1p n c s h.len
 have j:=A88 s.cs.length m hm
 unfold Ik
 by_cases d:s.cs.length<n
 ·rw [iP d]
  by_cases f:Gi n c s<n
  ·rw [iP f]
   have e:(s.cs++[c]).length=s.cs.length+1:=by simp
   have k:7^(s.cs.length+1)*m=7*(7^s.cs.length*m):=by rw [dD,bJ (7^s.cs.length) 7,cI]
   refine ⟨fun a b g i=>?_,?_,?_⟩
   ·show Sz (7^(s.cs++[c]).length*m) _
    rw [e,k]
    exact Sz.elimE (n:=n) (w:=w) (fun a b g i=>h.R _ b (R8 d f g) i) d hc j g i
   ·show Sz (7^(s.cs++[c]).length*m) ((if Gi n c s=s.cs.length then s.det else -s.det)*s.R (Gi n c s) c)
    rw [e,k]
    have:Sz (7^s.cs.length*m) (if Gi n c s=s.cs.length then s.det else -s.det):=by
     split
     ·exact h.det
     ·exact h.det.neg
    exact (this.mul (h.R _ c f hc)).mono (by omega)
   ·show (s.cs++[c]).length<=n
    omega
  ·rw [iN f]
   exact ⟨h.R,Sz.zero j,h.len⟩
 ·rw [iN d];exact h
def SzE.run{n w m:Nat}{s:ES}(h:SzE n w m s)(hm:1<=m):∀ c,c<=w->SzE n w m (B1o n s c):=by
 intro c
 induction c with
 | zero=>exact fun _=>h
 | succ c ih=>exact fun a=>(ih (by omega)).step hm (by omega)
def ZB.tdivS{m:Nat}{x d:Int}(h:ZB m x):ZB m (x.tdiv d):=by
 refine h.le ?_
 rw [Int.natAbs_tdiv]
 exact Nat.div_le_self _ _
def ZB.clr{n w k j m:Nat}{M:Nat->Nat->Int}{d:Int}(hM:∀ a b,a<n->b<w->ZB m (M a b))(hk:k<n)(hj:j<w){a b:Nat}(ha:a<n)(hb:b<w):ZB (2*m+1) (clr M k j d a b):=by
 unfold Go.Proofs.YtmbfcbbkbefgfaaGreatDoor.clr
 split
 ·exact (hM k b hk hb).mono (by omega)
 ·refine ZB.tdivS ?_
  have e:=(hM k j hk hj).mul (hM a b ha hb)
  have c:=(hM a j ha hj).mul (hM k b hk hb)
  exact (e.sub c).mono (by omega)
def A6a(n c:Nat)(s:PS)(h:s.cs.length<=n):s.cs.length<=So n c s/\So n c s<=n:=by
 have:=A4b (fun i=>decide (s.M i c≠0)) (n-s.cs.length) s.cs.length
 unfold So
 omega
structure ZbP (n w m l:Nat) (s:PS):Prop where
 M:∀ a b,a<n->b<w->ZB (3^s.cs.length*m) (s.M a b)
 last:ZB (3^s.cs.length*m) s.last
 S:∀ a,a<n->Sz l (s.S a)
 len:s.cs.length<=n
def A89(k m:Nat)(hm:1<=m):1<=3^k*m:=by
 have:0<3^k:=Nat.pow_pos (by decide)
 exact Nat.mul_pos this hm
def ZbP.step{n w m l c:Nat}{s:PS}(h:ZbP n w m l s)(hm:1<=m)(hc:c<w):ZbP n w m l (Eg n c s):=by
 have o:=A6a n c s h.len
 have k:=A89 s.cs.length m hm
 unfold Eg
 by_cases d:So n c s<n
 ·rw [iP d]
  have g:s.cs.length<n:=by omega
  have e:(s.cs++[c]).length=s.cs.length+1:=by simp
  have j:3^(s.cs.length+1)*m=3*(3^s.cs.length*m):=by rw [dD,bJ (3^s.cs.length) 3,cI]
  refine ⟨fun a b f i=>?_,?_,fun a f=>h.S _ (R8 g d f),?_⟩
  ·show ZB (3^(s.cs++[c]).length*m) _
   rw [e,j]
   exact (ZB.clr (n:=n) (w:=w) (fun a b f i=>h.M _ b (R8 g d f) i) g hc f i).mono (by omega)
  ·show ZB (3^(s.cs++[c]).length*m) (s.M (So n c s) c)
   rw [e,j]
   exact (h.M _ c d hc).mono (by omega)
  ·show (s.cs++[c]).length<=n
   omega
 ·rw [iN d];exact h
def ZbP.run{n w m l:Nat}{s:PS}(h:ZbP n w m l s)(hm:1<=m):∀ c,c<=w->ZbP n w m l (Dh n s c):=by
 intro c
 induction c with
 | zero=>exact fun _=>h
 | succ c ih=>exact fun a=>(ih (by omega)).step hm (by omega)
structure Asc (l:List Nat) (c:Nat):Prop where
 lt:∀ x∈l,x<c
 asc:l.Pairwise (· < ·)
def U7(z:Int)(l:List bD):iAt (I z::l) 0=z:=rfl
def A9w:prog.cellsOf E9=4/\(prog.info? E9).isSome=true:=Uh
def B29:prog.cellsOf G2=4/\(prog.info? G2).isSome=true:=Nq
section
variable {α β:Type} [E:Enc α] {R:aE->α->β->Prop}
def OwnK(R:aE->α->β->Prop)(h h':aE)(b n k:Nat)(f:Nat->β):Prop:=∃ g o xs,h.le g/\Sep h' g o/\RowX o b xs/\xs.length=n/\Row R g xs k f
def OwnK.zero{h:aE}{b n:Nat}{f:Nat->β}{e:aZ}{z:α}(hb:h b=none):OwnK R h (C09 e h b (cR n z)) b n 0 f:=
 ⟨h,V7.put b (.cells ((cR n z).flatMap enc).toArray e),cR n z,B5 _,Da hb,RowX.mk,by simp,Row.nil⟩
def OwnK.store(m:Mon R){P:cC}{t:aZ}(one:P.cellsOf t=E.default.size/\(P.info? t).isSome=true){h h' g g' o:aE}{b n k:Nat}{f:Nat->β}{xs:List α}(lg:h.le g)(lg':g.le g')(s:Sep h' g' o)(rb:RowX o b xs)(hn:xs.length=n)(r:Row R g xs k f)(hk:k<n){v:bD}{y:α}(hv:v.cells=(enc y).toArray)(hy:R g' y (f k)){K:Unit->aE->Prop}
 (x:∀ h2,OwnK R h h2 b n (k+1) f->K () h2):wpH P (aO t (.pointer (some (aC ⟨b,0,none⟩ (k*E.default.size)))) v) K h':=by
 refine Aj one hv s rb (by omega) ?_
 intro h2 d i e a c
 exact x h2 ⟨g',d,_,B0 lg lg',a,c,by simpa using hn,(r.mono m lg').set (by omega) hy⟩
end
def Z5:QV:=⟨false,none,0,0,false,none,0,0⟩
section
variable {h:aE} {K:VP} {A:Option aI} {n c m:Nat} {ls:Nat->List UInt8} {f:Nat->Rat} {a w:QV} {q:Rat}
def V6(gl:Gl h)(r:bV SSr h A n ls)(hn:n<=1000000)(hl:LL n ls)
 (hK1:(∀ i,i<n->cW (ls i))->∀ b h',Own RQr h h' b n (fun i=>rv (ls i))->K (.tuple #[.slice (some ⟨b,0,none⟩) n n,.bool true]) h')
 (hK0:¬ (∀ i,i<n->cW (ls i))->∀ h',h.le h'->K (.tuple #[.slice none 0 0,.bool false]) h'):aV prog Cu #[.slice A n c] h K:=by
 refine A7h _ _ _ ?_
 unfold A9b
 refine N4 A9v (zx:=Z5) rfl (by omega) (by omega) (by omega) (by omega) ?_
 intro b S
 refine ⟨_,_,_,rfl,fun L u=>∃ k:Nat,k<=n/\L=[I k]/\(∀ i,i<k->cW (ls i))/\OwnK RQr h u b n k (fun i=>rv (ls i)),fun L _=>n-(iAt L 0).toNat,⟨0,by omega,rfl,fun i T=>by omega,OwnK.zero S⟩,?_⟩
 rintro t u ⟨k,V,M,f,g,o,H,l,s,F,G,D⟩
 obtain rfl:=sI1 M
 refine B8 (fun p=>?_) (fun Q=>?_)
 ·have d:k<n:=by omega
  obtain ⟨a,rfl,R⟩:=(r.mono J5 (B0 l s.le)).sat d
  refine ⟨a,rfl,by omega,by omega,_,R,?_⟩
  refine s.call (B04 (gl.mono l).tz (hl k d) ?_ ?_)
  ·intro q e w E z O C m
   refine ⟨_,_,_,_,_,_,_,_,_,rfl,_,rfl,by omega,by simpa using p,?_⟩
   refine OwnK.store H1 B29 (y:=w) l z m F G D d rfl (by show RQ E w (rv (ls k));rw [e,In];exact O) ?_
   intro W N
   rw [wiS k (by omega)]
   refine ⟨⟨k+1,by omega,rfl,fun i T=>?_,N⟩,?_⟩
   ·by_cases J:i=k
    ·subst J;exact ⟨q,e⟩
    ·exact f i (by omega)
   ·simp only [U7];omega
  ·intro B w E z _ C m
   exact ⟨_,_,_,_,_,_,_,_,_,rfl,hK0 (fun j=>B (j k d)) C (B0 l (B0 z m.le))⟩
 ·have:k=n:=by omega
  subst this
  exact hK1 f b u ⟨g,o,H,l,s,F,G,D⟩
def Ij(gl:Gl h)(r:bV RQr h A n f)(hn:n<=1000000)(hs:∀ i,i<n->Sz m (f i))(hm:m<=40000000)
 (hK:∀ b h',Own SSr h h' b n (fun i=>K4 (f i))->K (.slice (some ⟨b,0,none⟩) n n) h'):aV prog Fh #[.slice A n c] h K:=by
 refine A7g _ _ _ ?_
 unfold A9a
 refine N4 Ao (zx:=([]:List UInt8)) rfl (by omega) (by omega) (by omega) (by omega) ?_
 intro b M
 refine ⟨_,_,_,rfl,fun L l=>∃ k:Nat,k<=n/\L=[I k]/\OwnK SSr h l b n k (fun i=>K4 (f i)),fun L _=>n-(iAt L 0).toNat,⟨0,by omega,rfl,OwnK.zero M⟩,?_⟩
 rintro t l ⟨k,O,D,g,o,C,e,s,q,u,p⟩
 obtain rfl:=sI1 D
 refine B8 (fun j=>?_) (fun H=>?_)
 ·have d:k<n:=by omega
  obtain ⟨a,w,rfl,G,J,N,B,F⟩:=(r.mono H1 e).qat d
  refine ⟨_,rfl,by omega,by omega,_,_,_,_,_,_,_,_,B9 s.le J,B9 s.le N,B9 s.le B,B9 s.le F,?_⟩
  refine s.call (Io (gl.mono e).p10 G (hs k d) hm ?_)
  intro R z
  refine ⟨_,rfl,_,rfl,by omega,by simpa using j,?_⟩
  refine OwnK.store J5 Rq (y:=K4 (f k)) e (B5 _) z q u p d rfl rfl ?_
  intro Q E
  rw [wiS k (by omega)]
  exact ⟨⟨k+1,by omega,rfl,E⟩,by simp only [U7];omega⟩
 ·have:k=n:=by omega
  subst this
  exact hK b l ⟨g,o,C,e,s,q,u,p⟩
def Uw(r:bV SSr h A n ls)(hn:n<=1000000)(hl:LL n ls)
 (hK1:(∀ i,i<n->cW (ls i))->∀ b h',Own NQr h h' b n (fun i=>rv (ls i))->K (.tuple #[.slice (some ⟨b,0,none⟩) n n,.bool true]) h')
 (hK0:¬ (∀ i,i<n->cW (ls i))->∀ h',h.le h'->K (.tuple #[.slice none 0 0,.bool false]) h'):aV prog A1n #[.slice A n c] h K:=by
 refine B8x _ _ _ ?_
 unfold C4z
 refine N4 Sk (zx:=Z5) rfl (by omega) (by omega) (by omega) (by omega) ?_
 intro b S
 refine ⟨_,_,_,rfl,fun L u=>∃ k:Nat,k<=n/\L=[I k]/\(∀ i,i<k->cW (ls i))/\OwnK NQr h u b n k (fun i=>rv (ls i)),fun L _=>n-(iAt L 0).toNat,⟨0,by omega,rfl,fun i T=>by omega,OwnK.zero S⟩,?_⟩
 rintro t u ⟨k,V,M,f,g,o,H,l,s,F,G,D⟩
 obtain rfl:=sI1 M
 refine B8 (fun p=>?_) (fun Q=>?_)
 ·have d:k<n:=by omega
  obtain ⟨a,rfl,R⟩:=(r.mono J5 (B0 l s.le)).sat d
  refine ⟨a,rfl,by omega,by omega,_,R,?_⟩
  refine s.call (B2j (hl k d) ?_ ?_)
  ·intro q e w E z O C m
   refine ⟨_,_,_,_,_,_,_,_,_,rfl,_,rfl,by omega,by simpa using p,?_⟩
   refine OwnK.store R6 A9w (y:=w) l z m F G D d rfl (by show NQ E w (rv (ls k));rw [e,In];exact O) ?_
   intro W N
   rw [wiS k (by omega)]
   refine ⟨⟨k+1,by omega,rfl,fun i T=>?_,N⟩,?_⟩
   ·by_cases J:i=k
    ·subst J;exact ⟨q,e⟩
    ·exact f i (by omega)
   ·simp only [U7];omega
  ·intro B w E z C m
   exact ⟨_,_,_,_,_,_,_,_,_,rfl,hK0 (fun j=>B (j k d)) C (B0 l (B0 z m.le))⟩
 ·have:k=n:=by omega
  subst this
  exact hK1 f b u ⟨g,o,H,l,s,F,G,D⟩
def Yo(r:bV NQr h A n f)(hn:n<=1000000)(hs:∀ i,i<n->Sz m (f i))(hm:m<=1000000000)
 (hK:∀ b h',Own SSr h h' b n (fun i=>K4 (f i))->K (.slice (some ⟨b,0,none⟩) n n) h'):aV prog Tl #[.slice A n c] h K:=by
 refine B5l _ _ _ ?_
 unfold C0n
 refine N4 Ao (zx:=([]:List UInt8)) rfl (by omega) (by omega) (by omega) (by omega) ?_
 intro b M
 refine ⟨_,_,_,rfl,fun L j=>∃ k:Nat,k<=n/\L=[I k]/\OwnK SSr h j b n k (fun i=>K4 (f i)),fun L _=>n-(iAt L 0).toNat,⟨0,by omega,rfl,OwnK.zero M⟩,?_⟩
 rintro t j ⟨k,O,D,g,o,C,l,s,q,u,p⟩
 obtain rfl:=sI1 D
 refine B8 (fun e=>?_) (fun H=>?_)
 ·have d:k<n:=by omega
  obtain ⟨a,w,rfl,G,J,N,B,F⟩:=(r.mono R6 l).qat d
  refine ⟨_,rfl,by omega,by omega,_,_,_,_,_,_,_,_,B9 s.le J,B9 s.le N,B9 s.le B,B9 s.le F,?_⟩
  refine s.call (Ud G (hs k d) hm ?_)
  intro R z
  refine ⟨_,rfl,_,rfl,by omega,by simpa using e,?_⟩
  refine OwnK.store J5 Rq (y:=K4 (f k)) l (B5 _) z q u p d rfl rfl ?_
  intro Q E
  rw [wiS k (by omega)]
  exact ⟨⟨k+1,by omega,rfl,E⟩,by simp only [U7];omega⟩
 ·have:k=n:=by omega
  subst this
  exact hK b j ⟨g,o,C,l,s,q,u,p⟩
def Cb(f:Nat->Rat):Nat->Nat
 | 0=>1
 | n+1=>Nat.lcm (Cb f n) (f n).den
def A15(f:Nat->Rat):∀ n,0<Cb f n:=by
 intro n
 induction n with
 | zero=>exact Nat.one_pos
 | succ n ih=>exact Nat.lcm_pos ih (f n).den_pos
def A16(f:Nat->Rat):∀ n i,i<n->(f i).den∣Cb f n:=by
 intro n
 induction n with
 | zero=>intro i h;omega
 | succ n ih=>
  intro i a
  by_cases e:i=n
  ·subst e;exact Nat.dvd_lcm_right _ _
  ·exact Nat.dvd_trans (ih i (by omega)) (Nat.dvd_lcm_left _ _)
def ZB.lcm{k j:Nat}{x y:Nat}(hx:ZB k (x:Int))(hy:ZB j (y:Int)):ZB (k+j) ((Nat.lcm x y:Nat):Int):=by
 have:=hx.mul hy
 unfold ZB at *
 rw [cJ]
 rw [Int.natAbs_mul,cJ,cJ] at this
 refine Nat.lt_of_le_of_lt ?_ this
 unfold Nat.lcm
 exact Nat.div_le_self _ _
def Lu{f:Nat->Rat}{m:Nat}: ∀ n,(∀ i,i<n->Sz m (f i))->ZB (1+n*m) (Cb f n:Int):=by
 intro n
 induction n with
 | zero=>intro _;exact ZB.one (by omega)
 | succ n ih=>
  intro h
  have:=(ih fun i a=>h i (by omega)).lcm (h n (by omega)).den
  exact this.mono (by rw [aL,aQ];omega)
def En(gl:Gl h)(r:bV RQr h A n f)(hn:n<=1000000)(hs:∀ i,i<n->Sz m (f i))(hm:1+n*m+m<=6400000000)
 (hK:∀ s A' n' c' h',h.le h'->ZI h' s A' n' c' (Cb f n:Int)->K (.agg #[.bool s,.slice A' n' c']) h'):aV prog K6 #[.slice A n c] h K:=by
 refine Ju _ _ _ ?_
 unfold Ed
 refine Db (by omega) (by omega) ?_
 intro s1 A1 n1 c1 z W R
 refine ⟨_,_,_,_,rfl,fun L q=>∃ (k:Nat) (s:Bool) (B:Option aI) (p o:Nat),k<=n/\L=[I k,.bool s,.slice B p o]/\h.le q/\ZI q s B p o (Cb f k:Int),fun L _=>n-(iAt L 0).toNat,⟨0,_,_,_,_,by omega,rfl,W,R⟩,?_⟩
 rintro t s B p o q ⟨k,D,B',j,g,hk,H,l,i⟩
 simp only [aX,bU,bM,aT,true_and,and_true] at H
 obtain ⟨rfl,rfl,rfl,rfl,rfl⟩:=H
 have E:B7 ((k:Int)+1)=((k+1:Nat):Int):=by rw [C1]<;>omega
 refine B8 (fun Q=>?_) (fun X=>?_)
 ·have u:k<n:=by omega
  obtain ⟨a,w,rfl,J,Z,d1,N,V⟩:=(r.mono H1 l).qat u
  have aa:1+k*m<=6400000000:=by
   have:k*m<=n*m:=aF _ (by omega)
   omega
  have d:1+k*m+m<=6400000000:=by
   have:k*m<=n*m:=aF _ (by omega)
   omega
  have O:=(Lu k fun i hi=>hs i (by omega)).mono (show 1+k*m<=1+k*m+m by omega)
  have G:=(hs k u).den.mono (show m<=1+k*m+m by omega)
  refine ⟨_,rfl,by omega,by omega,_,_,_,_,_,_,_,_,Z,d1,N,V,?_⟩
  refine F5 J.den ⟨_,rfl,?_⟩
  have y:((if (f k).den=1 then 0 else ((f k).den:Int))=0)↔(f k).den=1:=by
   have:=(f k).den_pos
   split<;>omega
  have same:Cb f (k+1)=Cb f k->(∃ (k':Nat) (D:Bool) (B':Option aI) (j g:Nat),k'<=n/\[I (B7 ((k:Int)+1)),.bool s,.slice B p o]=[I k',.bool D,.slice B' j g]/\h.le q/\ZI q D B' j g (Cb f k':Int))/\n-(iAt [I (B7 ((k:Int)+1)),.bool s,.slice B p o] 0).toNat<n-(iAt [I (k:Int),.bool s,.slice B p o] 0).toNat:=by
   intro e
   rw [E]
   exact ⟨⟨k+1,_,_,_,_,by omega,rfl,l,by rw [e];exact i⟩,by simp only [U7];omega⟩
  refine Br.not (B8 (fun z=>?_) (fun z=>?_))
  ·have C:=y.1 z
   exact same (by rw [Cb,C];exact Nat.lcm_one_right _)
  ·have C:(if (f k).den=1 then 0 else ((f k).den:Int))=((f k).den:Int):=iN fun e=>z (y.2 e)
   have b:=J.den
   rw [C] at b
   refine A5t b i G d ⟨_,rfl,?_⟩
   refine Br.not (B8 (fun F=>?_) (fun F=>?_))
   ·have T:(f k).den=Cb f k:=by exact_mod_cast F
    exact same (by rw [Cb,T];exact Nat.lcm_self _)
   ·refine A30 (gl.mono l).tz i b O G d ?_
    intro A' n' c' h' S M
    refine ⟨_,_,_,_,rfl,?_⟩
    rw [E]
    refine ⟨⟨k+1,_,_,_,_,by omega,rfl,B0 l S,?_⟩,by simp only [U7];omega⟩
    have:Int.lcm (Cb f k:Int) ((f k).den:Int)=Cb f (k+1):=by simp [Int.lcm,Cb]
    rw [this] at M;exact M
 ·have:k=n:=by omega
  subst this
  exact hK _ _ _ _ q l i
def scl(q:Rat)(d:Int):Int:=q.num*d.tdiv q.den
def C1x(q:Rat):q*(q.den:Rat)=(q.num:Rat):=by
 have h:=Rat.num_divInt_den q
 rw [bX] at h
 have a:((q.den:Int):Rat)≠0:=J7 (den_ne q)
 have e:((q.den:Int):Rat)=(q.den:Rat):=rfl
 rw [<- e]
 calc q*((q.den:Int):Rat)=(q.num:Rat)/((q.den:Int):Rat)*((q.den:Int):Rat):=by rw [h]
  _=q.num:=Rat.div_mul_cancel a
def B2f{q:Rat}{d:Int}(h:(q.den:Int)∣d):(scl q d:Rat)=q*d:=by
 obtain ⟨e,rfl⟩:=h
 unfold scl
 rw [cX _ (den_ne q),aW,aW]
 have b:q*(q.den:Rat)=(q.num:Rat):=C1x q
 have a:(((q.den:Nat):Int):Rat)=(q.den:Rat):=rfl
 rw [a,<- b,Rat.mul_assoc]
def B2e{q:Rat}{d:Int}{k:Nat}(hq:Sz m q)(hd:ZB k d):ZB (m+k) (scl q d):=hq.num.mul hd.tdiv
def Lm{s:Bool}{B:Option aI}{bn bc:Nat}{d:Int}(i:RQ h w q)(j:ZI h s B bn bc d)(hq:Sz m q)(hd:ZB m d)(hm:m<=6400000000)
 (hK:∀ s A' n' c' h',h.le h'->ZI h' s A' n' c' (scl q d)->K (.agg #[.bool s,.slice A' n' c']) h'):aV prog Ix #[w.v,.agg #[.bool s,.slice B bn bc]] h K:=by
 refine B15 _ _ _ _ _ _ _ _ _ _ _ _ ?_
 unfold B5g
 refine F5 i.den ⟨_,rfl,?_⟩
 have b:((if q.den=1 then 0 else (q.den:Int))=0)↔q.den=1:=by
  have:=q.den_pos
  split<;>omega
 refine B8 (fun f=>?_) (fun f=>?_)
 ·have c:=b.1 f
  refine N2 i.num j hq.num hd hm ?_
  intro o A' n' c' h' t r
  refine ⟨_,_,_,_,rfl,hK _ _ _ _ _ t ?_⟩
  have:scl q d=q.num*d:=by unfold scl;rw [c];simp
  rw [this];exact r
 ·have c:(if q.den=1 then 0 else (q.den:Int))=(q.den:Int):=iN fun e=>f (b.2 e)
  have a:=i.den
  rw [c] at a
  refine R7 j a hd hq.den hm (den_ne q) ?_
  intro o A1 y c1 p g n
  refine ⟨_,_,_,_,rfl,g,?_⟩
  refine N2 (i.num.mono g) n hq.num hd.tdiv hm ?_
  intro u A2 A c2 z k l
  exact ⟨_,_,_,_,rfl,k,hK _ _ _ _ _ (B0 g k) l⟩
end
instance:Enc Int:=⟨⟨fun z=>[I z],1,fun _=>rfl,fun z v hv=>by rw [List.mem_singleton.1 hv];rfl⟩⟩
abbrev IIr:aE->Int->Int->Prop:=fun _ w z=>w=z
section
variable {α:Type} [E:Enc α]
def OwnSl(o:aE)(e:aZ)(A:Option aI)(c:Nat)(xs:List α):Prop:=
 xs.length<=c/\((c=0/\A=none)\/∃ b arr,A=some ⟨b,0,none⟩/\o b=some (.cells (bK arr) e)/\arr.length=c*E.default.size/\arr.take (xs.length*E.default.size)=xs.flatMap enc)
def OwnSl.nil{o:aE}{e:aZ}:OwnSl o e none 0 ([]:List α):=⟨aG _,.inl ⟨rfl,rfl⟩⟩
def OwnSl.keep{o o':aE}{e:aZ}{A:Option aI}{c:Nat}{xs:List α}(w:OwnSl o e A c xs)(h:∀ b x,A=some ⟨b,0,none⟩->o b=some x->o' b=some x):OwnSl o' e A c xs:=by
 refine ⟨w.1,?_⟩
 rcases w.2 with g|⟨b,a,d,i,f,j⟩
 ·exact .inl g
 ·exact .inr ⟨b,a,d,h b _ d i,f,j⟩
def OwnSl.rowB{o:aE}{e:aZ}{A:Option aI}{c:Nat}{xs:List α}(w:OwnSl o e A c xs)(hne:xs≠[]):∃ b,A=some ⟨b,0,none⟩/\RowB o b xs:=by
 rcases w.2 with d|⟨b,a,f,g,j,i⟩
 ·exfalso
  have:=w.1
  have:=d.1
  have:xs.length≠0:=fun h=>hne (bO h)
  omega
 ·exact ⟨b,f,e,a.drop (xs.length*E.default.size),by rw [g,<- i,List.take_append_drop]⟩
def OwnSl.slF{o h:aE}{e:aZ}{A:Option aI}{c:Nat}{xs:List α}(w:OwnSl o e A c xs)(hl:o.le h):SlF h A xs:=by
 by_cases a:xs=[]
 ·rw [a];exact SlF.nil
 ·obtain ⟨b,rfl,r⟩:=w.rowB a
  exact r.slF hl
def OwnSl.priv{h g o:aE}{e:aZ}{A:Option aI}{c:Nat}{xs:List α}(s:Sep h g o)(w:OwnSl o e A c xs):∃ gb,PrivF h gb e A c xs/\∀ k x,h k=some x->A≠some ⟨k,0,none⟩->gb k=some x:=by
 rcases w.2 with ⟨l,p⟩|⟨b,a,f,m,i,n⟩
 ·subst l
  have j:xs=[]:=bO (by have:=w.1;omega)
  subst j
  exact ⟨h,PrivF.nil h e A,fun k x e _=>e⟩
 ·refine ⟨h.without b,⟨L7 xs,w.1,.inr ⟨b,a,f,Fw _ _,(M0 (s.own b _ m)).symm,i,n⟩⟩,fun k x e d=>?_⟩
  unfold Heap.without
  rw [iN]
  ·exact e
  ·rintro rfl;exact d f
def OwnSl.push{P:cC}{t e ty:aZ}{z:bD}{bytes:Nat}(st:SliceT P t e z E.default.size bytes){h g o:aE}{A:Option aI}{c:Nat}{xs:List α}(s:Sep h g o)(w:OwnSl o e A c xs){v:bD}{y:α}(hv:v.cells=(enc y).toArray)(hsz:E.default.size<=1000)
 (hb:(2*(xs.length+1)+192)*bytes<=281474976710656) (hn:xs.length+1<=9223372036854775807) {K1:aE->Prop} {K:Option aI->Nat->Nat->aE->Prop}
 (x0:∀ h1,h.le h1->K1 h1)
 (x:∀ A' c' h' g' o',g.le g'->Sep h' g' o'->OwnSl o' e A' c' (xs++[y])->(∀ k u,o k=some u->A≠some ⟨k,0,none⟩->o' k=some u/\A'≠some ⟨k,0,none⟩)->K A' (xs.length+1) c' h'):
 wpH P (bC t 1 #[(0,v)]) (fun v' hp=>∃ (B:Option aI) (m d:Nat),v'= .slice B m d/\K1 hp/\wpH P (aS #[t,t] ty #[.slice A xs.length c,.slice B m d]) (fun v1 hp1=>∃ (A':Option aI) (n' c':Nat),v1= .slice A' n' c'/\K A' n' c' hp1) hp) h:=by
 obtain ⟨gb,p,H⟩:=w.priv s
 refine Og st (vs:=[v]) (fun u Z=>by rw [List.mem_singleton.1 Z,hv];simp [E.default.len]) rfl (by simp;omega) rfl ?_
 intro b i
 have S:[v].flatMap (fun v=>v.cells.toList)=[y].flatMap enc:=by simp [hv]
 rw [S]
 refine ⟨_,_,_,rfl,x0 _ (Heap.le_put _ i),?_⟩
 have p':PrivF (h.put b (.cells ([y].flatMap enc).toArray e)) (gb.put b (.cells ([y].flatMap enc).toArray e)) e A c xs:=Priv.put p i _
 refine Kr st p' (ys:=[y]) rfl (B4o e h b [y]) hb hn ?_
 intro A' c' h' g' hg hp
 refine ⟨_,_,_,rfl,?_⟩
 rw [aD]
 have G:∀ k u,h k=some u->A≠some ⟨k,0,none⟩->g' k=some u:=by
  intro k u a O
  have f:k≠b:=by rintro rfl;rw [i] at a;cases a
  exact hg k u (by rw [C0 _ _ f];exact H k u a O)
 have R:∀ k u,g k=some u->A≠some ⟨k,0,none⟩:=by
  intro k u a r
  rcases w.2 with ⟨_,T⟩|⟨j,n,l,q,_⟩
  ·rw [r] at T;cases T
  ·rw [r] at l
   simp only [aJ,aP,and_true] at l
   subst l
   rw [s.dis k _ q] at a;cases a
 rcases hp.2.2 with ⟨aa,_⟩|⟨j,n,l,q,J,ha,ht⟩
 ·exfalso
  have:=hp.2.1
  rw [aD] at this
  simp at this
  omega
 ·subst l
  let o':aE:=fun k=>if k=j then some (.cells (bK n) e) else if A=some ⟨k,0,none⟩ then none else o k
  have W:o' j=some (.cells (bK n) e):=by show (if j=j then _ else _)=_;rw [iP rfl]
  have ok:∀ k,k≠j->A≠some ⟨k,0,none⟩->o' k=o k:=fun k h1 C=>by show (if k=j then _ else if _ then _ else _)=_;rw [iN h1,iN C]
  have N:∀ k,k≠j->A=some ⟨k,0,none⟩->o' k=none:=fun k h1 C=>by show (if k=j then _ else if _ then _ else _)=_;rw [iN h1,iP C]
  let g2:aE:=fun k=>match o' k with|some _=>none|none=>h' k
  have gs:∀ k u,o' k=some u->g2 k=none:=fun k u a=>by show (match o' k with|some _=>none|none=>h' k)=_;rw [a]
  have X:∀ k,o' k=none->g2 k=h' k:=fun k a=>by show (match o' k with|some _=>none|none=>h' k)=_;rw [a]
  have D:∀ k u,k≠j->g' k=some u->h' k=some u:=fun k u h1 a=>by rw [J,C0 _ _ h1];exact a
  have L:∀ k u,o k=some u->A≠some ⟨k,0,none⟩->k≠j:=by
   rintro k u a C rfl
   have:=G k u (s.own k u a) C
   rw [q] at this;cases this
  refine x _ c' h' g2 o' (fun k u a=>?_) ⟨fun k u a=>?_,fun k a=>(X k a).symm,gs⟩ ⟨hp.2.1,.inr ⟨j,n,rfl,W,ha,ht⟩⟩ (fun k u a C=>?_)
  ·have M:o k=none:=by
    cases ho:o k with
    | none=>rfl
    | some y=>rw [s.dis k y ho] at a;cases a
   have r:=R k u a
   have Q:=G k u (s.le k u a) r
   have F:k≠j:=by rintro rfl;rw [q] at Q;cases Q
   rw [X k (by rw [ok k F r];exact M)]
   exact D k u F Q
  ·by_cases f:k=j
   ·subst f
    rw [W] at a;cases a
    rw [J,C2]
   ·by_cases r:A=some ⟨k,0,none⟩
    ·rw [N k f r] at a;cases a
    ·rw [ok k f r] at a
     exact D k u f (G k u (s.own k u a) r)
  ·have f:=L k u a C
   refine ⟨by rw [ok k f C];exact a,fun V=>f ?_⟩
   simp only [aJ,aP,and_true] at V
   exact V.symm
end
structure Tb where
 bt:Nat
 bE:Nat
 bS:Nat
 rows:Nat
 cols:Nat
 cE:Nat
 cS:Nat
structure Tab (h g o:aE) (T:Tb) (M:Nat->Nat->Int) (S:Nat->Rat):Prop where
 sep:Sep h g o
 n1:T.bt≠T.bE
 n2:T.bt≠T.bS
 n3:T.bE≠T.bS
 head:∃ e,o T.bt=some (.cells #[I T.cols,.slice (some ⟨T.bE,0,none⟩) (T.rows*T.cols) T.cE,.slice (some ⟨T.bS,0,none⟩) T.rows T.cS] e)
 elems:∃ ws:List IV,RowB o T.bE ws/\ws.length=T.rows*T.cols/\∀ i j,i<T.rows->j<T.cols->∃ w,ws[i*T.cols+j]? = some w/\ZIr g w (M i j)
 scales:∃ ss:List QV,RowB o T.bS ss/\ss.length=T.rows/\Row RQr g ss T.rows S
 cE:T.rows*T.cols<=T.cE
 cS:T.rows<=T.cS
 small:T.rows<=10000/\T.cols<=10000
 pos:0<T.cols
def C3h(M:Nat->Nat->Int)(i j:Nat)(z:Int):Nat->Nat->Int:=fun a b=>if a=i/\b=j then z else M a b
def L8{rows cols i j:Nat}(hi:i<rows)(hj:j<cols):i*cols+j<rows*cols:=by
 have:(i+1)*cols<=rows*cols:=aF _ hi
 rw [aL,aQ] at this
 omega
def C20{cols i j i' j':Nat}(hj:j<cols)(hj':j'<cols)(h:i*cols+j=i'*cols+j'):i=i'/\j=j':=by
 have b:(i*cols+j)/cols=i:=by rw [bJ,cP (by omega),cM hj,cF]
 have a:(i'*cols+j')/cols=i':=by rw [bJ,cP (by omega),cM hj',cF]
 have:i=i':=by rw [<- b,<- a,h]
 subst this
 exact ⟨rfl,by omega⟩
section
variable {h g o:aE} {T:Tb} {M:Nat->Nat->Int} {S:Nat->Rat} {K:VP} {m:Nat}
def Tab.next(t:Tab h g o T M S){h' g':aE}(s:Sep h' g' o)(l:g.le g'):Tab h' g' o T M S:=by
 refine ⟨s,t.n1,t.n2,t.n3,t.head,?_,?_,t.cE,t.cS,t.small,t.pos⟩
 ·obtain ⟨k,r,a,b⟩:=t.elems
  refine ⟨k,r,a,fun i j m d=>?_⟩
  obtain ⟨w,e,f⟩:=b i j m d
  exact ⟨w,e,Gn _ _ _ _ l f⟩
 ·obtain ⟨c,r,a,b⟩:=t.scales
  exact ⟨c,r,a,b.mono H1 l⟩
def Tab.congr(t:Tab h g o T M S){M':Nat->Nat->Int}{S':Nat->Rat}(hM:∀ i j,i<T.rows->j<T.cols->M i j=M' i j)(hS:∀ i,i<T.rows->S i=S' i):Tab h g o T M' S':=by
 refine ⟨t.sep,t.n1,t.n2,t.n3,t.head,?_,?_,t.cE,t.cS,t.small,t.pos⟩
 ·obtain ⟨f,r,a,b⟩:=t.elems
  refine ⟨f,r,a,fun i j d c=>?_⟩
  rw [<- hM i j d c];exact b i j d c
 ·obtain ⟨e,r,a,b⟩:=t.scales
  exact ⟨e,r,a,b.congr hS⟩
def Tab.c0(t:Tab h g o T M S):h.cell? (aC ⟨T.bt,0,none⟩ 0)=some (I T.cols):=by
 obtain ⟨e,a⟩:=t.head
 refine t.sep.cell ?_
 rw [E6];unfold Heap.cell?;simp only [a];rfl
def Tab.c1(t:Tab h g o T M S):h.cell? (aC ⟨T.bt,0,none⟩ 1)=some (.slice (some ⟨T.bE,0,none⟩) (T.rows*T.cols) T.cE):=by
 obtain ⟨e,a⟩:=t.head
 refine t.sep.cell ?_
 rw [E6];unfold Heap.cell?;simp only [a];rfl
def Tab.c2(t:Tab h g o T M S):h.cell? (aC ⟨T.bt,0,none⟩ 2)=some (.slice (some ⟨T.bS,0,none⟩) T.rows T.cS):=by
 obtain ⟨e,a⟩:=t.head
 refine t.sep.cell ?_
 rw [E6];unfold Heap.cell?;simp only [a];rfl
def Tab.at(t:Tab h g o T M S){i j:Nat}(hi:i<T.rows)(hj:j<T.cols):∃ w:IV,ZIr g w (M i j)/\h.cell? (aC (aC ⟨T.bE,i*T.cols*2,none⟩ (j*2)) 0)=some (.bool w.s)/\h.cell? (aC (aC ⟨T.bE,i*T.cols*2,none⟩ (j*2)) 1)=some (.slice w.A w.n w.c):=by
 obtain ⟨l,r,m,k⟩:=t.elems
 obtain ⟨w,e,f⟩:=k i j hi hj
 have d:=L8 hi hj
 have a:l[i*T.cols+j]=w:=by
  rw [aH (by omega)] at e
  cases e;rfl
 have b:i*T.cols*2+j*2=(i*T.cols+j)*2:=by rw [aL]
 refine ⟨w,f,t.sep.cell ?_,t.sep.cell ?_⟩
 ·rw [E6,E6,b]
  exact r.cell (i:=i*T.cols+j) (by omega) (j:=0) (v:=.bool w.s) (by rw [a];rfl)
 ·rw [E6,E6,b]
  exact r.cell (i:=i*T.cols+j) (by omega) (j:=1) (v:=.slice w.A w.n w.c) (by rw [a];rfl)
def Tab.ato(t:Tab h g o T M S){i j:Nat}(hi:i<T.rows)(hj:j<T.cols):∃ w:IV,ZIr g w (M i j)/\o.cell? (aC (aC ⟨T.bE,i*T.cols*2,none⟩ (j*2)) 0)=some (.bool w.s)/\o.cell? (aC (aC ⟨T.bE,i*T.cols*2,none⟩ (j*2)) 1)=some (.slice w.A w.n w.c):=by
 obtain ⟨l,r,m,k⟩:=t.elems
 obtain ⟨w,e,f⟩:=k i j hi hj
 have d:=L8 hi hj
 have a:l[i*T.cols+j]=w:=by
  rw [aH (by omega)] at e
  cases e;rfl
 have b:i*T.cols*2+j*2=(i*T.cols+j)*2:=by rw [aL]
 refine ⟨w,f,?_,?_⟩
 ·rw [E6,E6,b]
  exact r.cell (i:=i*T.cols+j) (by omega) (j:=0) (v:=.bool w.s) (by rw [a];rfl)
 ·rw [E6,E6,b]
  exact r.cell (i:=i*T.cols+j) (by omega) (j:=1) (v:=.slice w.A w.n w.c) (by rw [a];rfl)
def Sep.le_le{h' g':aE}(s:Sep h g o)(s':Sep h' g' o)(l:g.le g'):h.le h':=fun k x e=>by
 cases ho:o k with
 | some y=>rw [s.own k y ho] at e;rw [s'.own k y ho];exact e
 | none=>rw [s.rest k ho] at e;rw [s'.rest k ho];exact l k x e
def Tab.sat(t:Tab h g o T M S){i:Nat}(hi:i<T.rows):∃ w:QV,RQ g w (S i)/\h.cell? (aC (aC ⟨T.bS,0,none⟩ (i*4)) 0)=some (.bool w.s)/\h.cell? (aC (aC ⟨T.bS,0,none⟩ (i*4)) 1)=some (.slice w.A w.n w.c)/\h.cell? (aC (aC ⟨T.bS,0,none⟩ (i*4)) 2)=some (.bool w.s2)/\h.cell? (aC (aC ⟨T.bS,0,none⟩ (i*4)) 3)=some (.slice w.A2 w.n2 w.c2):=by
 obtain ⟨a,r,m,f⟩:=t.scales
 obtain ⟨w,e,b⟩:=f i hi
 have l:a[i]=w:=by
  rw [aH (by omega)] at e
  cases e;rfl
 have cell:∀ k v,(enc w)[k]? = some v->h.cell? (aC (aC ⟨T.bS,0,none⟩ (i*4)) k)=some v:=by
  intro k v d
  refine t.sep.cell ?_
  rw [E6,E6,aN]
  exact r.cell (i:=i) (by omega) (j:=k) (by rw [l];exact d)
 exact ⟨w,b,cell 0 _ rfl,cell 1 _ rfl,cell 2 _ rfl,cell 3 _ rfl⟩
def Tab.store(t:Tab h g o T M S){i j:Nat}(hi:i<T.rows)(hj:j<T.cols){w:IV}{z:Int}(hz:ZIr g w z){K:Unit->aE->Prop}
 (x:∀ h' o',Tab h' g o' T (C3h M i j z) S->(∀ k,k≠T.bE->o' k=o k)->K () h'):wpH prog (aO Fz (.pointer (some (aC ⟨T.bE,i*T.cols*2,none⟩ (j*2)))) w.v) K h:=by
 obtain ⟨N,r,p,D⟩:=t.elems
 have A:=L8 hi hj
 have C:i*T.cols*2+j*2=(i*T.cols+j)*2:=by rw [aL]
 rw [E6,C]
 refine Sep.store (E:=inferInstanceAs (Enc IV)) Ug (v:=w.v) (y:=w) rfl t.sep r (i:=i*T.cols+j) (by omega) rfl ?_
 intro h' o' L c B H
 refine x h' o' ⟨B,t.n1,t.n2,t.n3,?_,⟨_,H,by simpa using p,fun a b d m=>?_⟩,?_,t.cE,t.cS,t.small,t.pos⟩ (fun k s=>by rw [c,C0 _ _ s])
 ·obtain ⟨e,F⟩:=t.head
  exact ⟨e,by rw [c,C0 _ _ t.n1];exact F⟩
 ·unfold C3h
  by_cases e:a=i/\b=j
  ·obtain ⟨rfl,rfl⟩:=e
   exact ⟨w,by rw [bL (by omega)],by rw [iP ⟨rfl,rfl⟩];exact hz⟩
  ·obtain ⟨u,n,q⟩:=D a b d m
   refine ⟨u,?_,by rw [iN e];exact q⟩
   rw [bB (fun x=>e (by have:=C20 hj m x;exact ⟨this.1.symm,this.2.symm⟩))]
   exact n
 ·obtain ⟨G,J,f,l⟩:=t.scales
  exact ⟨G,by rw [c];exact J.other t.n3.symm _,f,l⟩
def Tab.sstore(t:Tab h g o T M S){i:Nat}(hi:i<T.rows){w:QV}{q:Rat}(hz:RQ g w q){K:Unit->aE->Prop}
 (x:∀ h' o',Tab h' g o' T M (fun a=>if a=i then q else S a)->(∀ k,k≠T.bS->o' k=o k)->K () h'):wpH prog (aO G2 (.pointer (some (aC ⟨T.bS,0,none⟩ (i*4)))) w.v) K h:=by
 obtain ⟨z,r,f,n⟩:=t.scales
 rw [E6,aN]
 refine Sep.store (E:=inferInstanceAs (Enc QV)) Nq (v:=w.v) (y:=w) rfl t.sep r (i:=i) (by omega) rfl ?_
 intro h' o' A c m l
 refine x h' o' ⟨m,t.n1,t.n2,t.n3,?_,?_,⟨_,l,by simpa using f,Row.upd n (by omega) hz⟩,t.cE,t.cS,t.small,t.pos⟩ (fun k j=>by rw [c,C0 _ _ j])
 ·obtain ⟨e,p⟩:=t.head
  exact ⟨e,by rw [c,C0 _ _ t.n2];exact p⟩
 ·obtain ⟨s,u,d,b⟩:=t.elems
  exact ⟨s,by rw [c];exact u.other t.n3 _,d,b⟩
def L6{n:Nat}(h:n<=9223372036854775807):B7 (n:Int)=(n:Int):=C1 (by omega) (by omega)
def O5(t:Tab h g o T M S){i:Nat}(hi:i<T.rows)(hK:K (.slice (some ⟨T.bE,i*T.cols*2,none⟩) T.cols (T.cE-i*T.cols)) h):aV prog Z2 #[.pointer (some ⟨T.bt,0,none⟩),I (i:Int)] h K:=by
 refine C38 _ _ ?_
 unfold C7y
 have a:=t.small
 have k:=t.pos
 have f:(i+1)*T.cols<=T.rows*T.cols:=aF _ hi
 have l:T.rows*T.cols<=10000*10000:=cH a.1 a.2
 have j:=t.cE
 have e:(i+1)*T.cols=i*T.cols+T.cols:=by rw [aL,aQ]
 have b:B7 ((i:Int)*(T.cols:Int))=((i*T.cols:Nat):Int):=by rw [<- bF];exact L6 (by omega)
 have d:B7 ((i:Int)+1)=((i+1:Nat):Int):=C1 (by omega) (by omega)
 have c:B7 (B7 ((i:Int)+1)*(T.cols:Int))=(((i+1)*T.cols:Nat):Int):=by rw [d,<- bF];exact L6 (by omega)
 refine ⟨_,rfl,_,_,_,t.c1,_,rfl,_,t.c0,_,rfl,_,t.c0,?_⟩
 rw [b,c]
 refine ⟨⟨by omega,by omega⟩,⟨by omega,by simp only [aY];omega⟩,?_⟩
 simp only [aY]
 rw [Wc (by omega),E6,aN,e,cY]
 exact hK
def B3t(t:Tab h g o T M S){start col:Nat}(hs:start<=T.rows)(hc:col<T.cols)
 (hK1:fnd (fun i=>decide (M i col≠0)) (T.rows-start) start<T.rows->K (.tuple #[I ((fnd (fun i=>decide (M i col≠0)) (T.rows-start) start:Nat):Int),.bool true]) h)
 (hK0:fnd (fun i=>decide (M i col≠0)) (T.rows-start) start=T.rows->K (.tuple #[I 0,.bool false]) h):aV prog A71 #[.pointer (some ⟨T.bt,0,none⟩),I (start:Int),I (col:Int)] h K:=by
 refine B9c _ _ _ ?_
 unfold C5g
 refine ⟨fun L f=>∃ k:Nat,k<=T.rows/\L=[I k]/\f=h/\start<=k/\∀ j,start<=j->j<k->decide (M j col≠0)=false,fun L _=>T.rows-(iAt L 0).toNat,⟨start,hs,rfl,rfl,aG _,fun j b l=>by omega⟩,?_⟩
 rintro i f ⟨k,y,p,rfl,c,d⟩
 obtain rfl:=sI1 p
 refine ⟨_,rfl,_,_,_,t.c2,B8 (fun n=>?_) (fun u=>?_)⟩
 ·have a:k<T.rows:=by omega
  refine O5 t a ⟨_,_,_,rfl,_,rfl,by omega,by omega,?_⟩
  obtain ⟨w,r,m,s⟩:=t.at a hc
  refine ⟨_,_,_,_,m,s,F5 (r.mono t.sep.le) ⟨_,rfl,Br.not (B8 (fun e=>?_) (fun e=>?_))⟩⟩
  ·rw [show B7 ((k:Int)+1)=((k+1:Nat):Int) by have:=t.small;rw [C1]<;>omega]
   refine ⟨⟨k+1,by omega,rfl,rfl,by omega,fun j b l=>?_⟩,by simp only [U7];omega⟩
   by_cases q:j=k
   ·subst q;simp [e]
   ·exact d j b (by omega)
  ·have:fnd (fun i=>decide (M i col≠0)) (T.rows-start) start=k:=A8k _ c (by omega) d (fun _=>by simpa using e)
   rw [this] at hK1
   exact hK1 a
 ·have:fnd (fun i=>decide (M i col≠0)) (T.rows-start) start=T.rows:=A8k _ hs (by omega) (fun j b l=>d j b (by omega)) (fun z=>by omega)
  exact hK0 this
def A3f(t:Tab h g o T M S){i k:Nat}(hi:i<T.rows)(hk:k<T.rows)(hik:i≠k)
 (hK:∀ h' o',Tab h' g o' T (fun a=>M (xch i k a)) (fun a=>S (xch i k a))->(∀ b,b≠T.bE->b≠T.bS->o' b=o b)->K (.tuple #[]) h'):aV prog A1z #[.pointer (some ⟨T.bt,0,none⟩),I (i:Int),I (k:Int)] h K:=by
 refine B9b _ _ _ ?_
 unfold C5f
 refine O5 t hi ⟨_,_,_,rfl,O5 t hk ⟨_,_,_,rfl,?_⟩⟩
 refine ⟨fun L J=>∃ (c:Nat) (y:aE),c<=T.cols/\L=[I c]/\Tab J g y T (fun a b=>if b<c then M (xch i k a) b else M a b) S/\∀ b,b≠T.bE->y b=o b,fun L _=>T.cols-(iAt L 0).toNat,⟨0,o,by omega,rfl,t.congr (fun a b _ _=>by rw [iN (by omega)]) (fun _ _=>rfl),fun _ _=>rfl⟩,?_⟩
 rintro z J ⟨c,y,hc,V,t1,l⟩
 obtain rfl:=sI1 V
 refine B8 (fun Q=>?_) (fun Z=>?_)
 ·have d:c<T.cols:=by omega
  obtain ⟨B,n,E,F⟩:=t1.at hk d
  obtain ⟨C,p,r,q⟩:=t1.at hi d
  rw [iN (aU c)] at n p
  refine ⟨_,rfl,by omega,by omega,_,_,_,_,E,F,_,rfl,by omega,by omega,_,_,_,_,r,q,_,rfl,by omega,by omega,?_⟩
  refine t1.store hi d (w:=B) n ?_
  intro O o2 D f
  refine ⟨_,rfl,by omega,by omega,?_⟩
  refine D.store hk d (w:=C) p ?_
  intro H u A e
  rw [show B7 ((c:Int)+1)=((c+1:Nat):Int) by have:=t.small;rw [C1]<;>omega]
  refine ⟨⟨c+1,u,by omega,rfl,A.congr (fun a b _ _=>?_) (fun _ _=>rfl),fun b m=>by rw [e b m,f b m,l b m]⟩,by simp only [U7];omega⟩
  show (if a=k/\b=c then M i c else if a=i/\b=c then M k c else if b<c then M (xch i k a) b else M a b)=if b<c+1 then M (xch i k a) b else M a b
  unfold xch
  grind
 ·have G:c=T.cols:=by omega
  subst G
  obtain ⟨B,n,E,F,N,X⟩:=t1.sat hk
  obtain ⟨C,p,r,q,W,R⟩:=t1.sat hi
  refine ⟨_,rfl,_,_,_,t1.c2,_,rfl,_,_,_,t1.c2,_,rfl,_,_,_,t1.c2,_,rfl,by omega,by omega,_,_,_,_,_,_,_,_,E,F,N,X,_,rfl,_,_,_,t1.c2,_,rfl,by omega,by omega,_,_,_,_,_,_,_,_,r,q,W,R,_,rfl,by omega,by omega,?_⟩
  refine t1.sstore hi (w:=B) n ?_
  intro O o2 D f
  refine ⟨_,rfl,by omega,by omega,?_⟩
  refine D.sstore hk (w:=C) p ?_
  intro H u A e
  refine hK H u (A.congr (fun a b _ m=>by rw [iP m]) (fun a _=>?_)) (fun b s j=>by rw [e b j,f b j,l b s])
  show (if a=k then S i else if a=i then S k else S a)=S (xch i k a)
  unfold xch
  grind
end
def Wg{P:cC}{t:aZ}{v:bD}{K:VP}{h:aE}(x:∀ b,h b=none->K (.pointer (some ⟨b,0,none⟩)) (h.put b (.cells v.cells t))):wpH P (Instr.box t v) K h:=by
 unfold Instr.box newVar
 simp only [C8,S9,H8]
 exact x
def B2p{m k:Nat}(hm:1<=m)(hk:k<4611686018427387904):(k:Int)*2^(2*m)<b64^m:=by
 have e:b64^m=(2:Int)^(2*m)*2^(62*m):=by
  have:b64=(2:Int)^64:=by decide
  rw [this,<- Int.pow_mul,<- Int.pow_add]
  congr 1;omega
 have c:(2:Int)^62<=2^(62*m):=D4 (by decide) (by omega)
 have a:(k:Int)<2^62:=by
  have:(2:Int)^62=4611686018427387904:=by decide
  rw [this];omega
 have b:(0:Int)<2^(2*m):=Int.pow_pos (by decide)
 rw [e,Int.mul_comm]
 exact Int.mul_lt_mul_of_pos_left (Int.lt_of_lt_of_le a c) b
def A6h{m:Nat}{x y:Int}(hx:ZB m x)(hy:ZB m y):((x*y).natAbs:Int)<=2^(2*m):=by
 have:=hx.mul hy
 unfold ZB at this
 have e:m+m=2*m:=by omega
 rw [e] at this
 have:((x*y).natAbs:Int)<((2^(2*m):Nat):Int):=by omega
 rw [Int.natCast_pow] at this
 exact Int.le_of_lt this
section
variable {h g o:aE} {T:Tb} {M:Nat->Nat->Int} {S:Nat->Rat} {K:VP} {m:Nat}
def A83:(prog.info? Lj).map (·.zero)=some (some (.agg #[.slice none 0 0,.slice none 0 0])):=by kernel_rfl
def Zl(t:Tab h g o T M S){i p c:Nat}{wb:IV}{d:Int}(hi:i<T.rows)(hp':p<T.rows)(hip:i≠p)(hc:c<T.cols)(ib:ZIr g wb d)(hd:d≠0)(hm1:1<=m)(hm:2*m+1<=100000000)(hMi:∀ b,b<T.cols->ZB m (M i b))(hMp:∀ b,b<T.cols->ZB m (M p b))(hdb:ZB m d)
 (hK:∀ h' g' o',g.le g'->Tab h' g' o' T (fun a b=>if a=i then (M p c*M i b-M i c*M p b).tdiv d else M a b) S->(∀ b,b≠T.bE->o' b=o b)->K (.tuple #[]) h'):aV prog Tr #[.pointer (some ⟨T.bt,0,none⟩),I (i:Int),I (p:Int),I (c:Int),wb.v] h K:=by
 refine B6o _ _ _ _ _ _ _ _ ?_
 unfold C19
 refine O5 t hi ⟨_,_,_,rfl,O5 t hp' ⟨_,_,_,rfl,?_⟩⟩
 obtain ⟨wf,Z,f0,f1⟩:=t.at hi hc
 refine ⟨_,rfl,by omega,by omega,_,_,_,_,f0,f1,?_⟩
 refine ⟨fun L Q=>∃ (k:Nat) (j q:aE),k<=T.cols/\L=[I k]/\g.le j/\Tab Q j q T (fun a b=>if a=i/\b<k then (M p c*M i b-M i c*M p b).tdiv d else M a b) S/\∀ b,b≠T.bE->q b=o b,fun L _=>T.cols-(iAt L 0).toNat,⟨0,g,o,by omega,rfl,B5 _,t.congr (fun a b _ _=>by rw [iN (by omega)]) (fun _ _=>rfl),fun _ _=>rfl⟩,?_⟩
 rintro z hq ⟨k,j,q,hk,eL,H,t1,A⟩
 obtain rfl:=sI1 eL
 have ew:B7 ((k:Int)+1)=((k+1:Nat):Int):=by have:=t.small;rw [C1]<;>omega
 refine B8 (fun ad=>?_) (fun ae=>?_)
 ·have f:k<T.cols:=by omega
  obtain ⟨w1,O,d0,d1⟩:=t1.at hi f
  rw [iN (by omega)] at O
  have same:(M p c*M i k-M i c*M p k).tdiv d=M i k->(∃ (k':Nat) (j q:aE),k'<=T.cols/\[I (B7 ((k:Int)+1))]=[I k']/\g.le j/\Tab hq j q T (fun a b=>if a=i/\b<k' then (M p c*M i b-M i c*M p b).tdiv d else M a b) S/\∀ b,b≠T.bE->q b=o b)/\T.cols-(iAt [I (B7 ((k:Int)+1))] 0).toNat<T.cols-(iAt [I (k:Int)] 0).toNat:=by
   intro e
   rw [ew]
   refine ⟨⟨k+1,j,q,by omega,rfl,H,t1.congr (fun a b _ _=>?_) (fun _ _=>rfl),A⟩,by simp only [U7];omega⟩
   by_cases l:a=i/\b<k
   ·rw [iP l,iP ⟨l.1,by omega⟩]
   ·rw [iN l]
    by_cases h2:a=i/\b<k+1
    ·obtain ⟨rfl,h3⟩:=h2
     have:b=k:=by omega
     subst this
     rw [iP ⟨rfl,by omega⟩,e]
    ·rw [iN h2]
  refine ⟨_,rfl,by omega,by omega,_,_,_,_,d0,d1,fun L Q=>Q=hq,?_,?_⟩
  ·refine F5 (O.mono t1.sep.le) ⟨_,rfl,B8 (fun e1=>?_) (fun _=>rfl)⟩
   refine F5 (Z.mono (B0 H t1.sep.le)) ⟨_,rfl,B8 (fun e2=>same (by rw [e1,e2];simp)) (fun _=>?_)⟩
   obtain ⟨w2,G,c0,c1⟩:=t1.at hp' f
   rw [iN (by omega)] at G
   refine ⟨_,rfl,by omega,by omega,_,_,_,_,c0,c1,F5 (G.mono t1.sep.le) ⟨_,rfl,B8 (fun e3=>same (by rw [e1,e3];simp)) (fun _=>rfl)⟩⟩
  ·rintro Q rfl
   refine Hl A83 ?_
   intro bs E
   have X:j bs=none:=by
    cases hx:j bs with
    | none=>rfl
    | some y=>rw [t1.sep.le _ _ hx] at E;cases E
   have W:=t1.sep.vis E (.cells #[.slice none 0 0,.slice none 0 0] Lj)
   have Z0:SumS (j.put bs (.cells #[.slice none 0 0,.slice none 0 0] Lj)) j bs Lj 200000001 0 0:=SumS.zero X
   obtain ⟨w3,z3,a0,a1⟩:=t1.ato hp' hc
   obtain ⟨w2,G,c0,c1⟩:=t1.ato hp' f
   rw [iN (by omega)] at G z3
   have R:∀ {gg:aE} {w:IV} {x:Int},ZIr gg w x->ZB m x->w.n<=100000000:=fun i b=>ZI.len i b (by omega)
   have D:=hMp c hc
   have s:=hMi k f
   have C:=hMi c hc
   have B:=hMp k f
   have q1:=A6h D s
   have q2:=A6h C B
   have q0:=B2p (m:=m) (k:=2) hm1 (by omega)
   have l3:=R z3 D
   have l1:=R O s
   have lf:=R Z C
   have l2:=R G B
   refine ⟨_,rfl,_,rfl,by omega,by omega,_,_,_,_,W.cell a0,W.cell a1,?_⟩
   refine W.call (Bp Z0 z3 O (by omega) (by omega) (N1:=m) (by omega) (by omega) ?_)
   intro G3 g3 r Z3 H3 s3
   refine ⟨rfl,_,rfl,by omega,by omega,_,_,_,_,s3.cell c0,s3.cell c1,?_⟩
   refine s3.call (Sm Z3 (Z.mono (B0 H r)) (G.mono r) (by omega) (by omega) (N1:=m) (by omega) (by omega) ?_)
   intro G4 g4 aa Z4 H4 s4
   refine ⟨rfl,s4.call (Nr Z4 (by omega) ?_)⟩
   intro sv Av nv cv G5 N z5 H5 s5
   rw [Int.zero_add] at z5
   refine ⟨_,_,_,_,rfl,s4.le_le s5 N,?_⟩
   have F:j.le G5:=B0 r (B0 aa (B0 Z4.le N))
   have bz:ZB (2*m+1) (M p c*M i k-M i c*M p k):=((D.mul s).sub (C.mul B)).mono (by omega)
   refine s5.call (R7 z5 (ib.mono (B0 H F)) bz (hdb.mono (by omega)) (by omega) hd ?_)
   intro s6 A6 n6 c6 G6 u z6 H6 J
   refine ⟨_,_,_,_,rfl,s5.le_le J u,_,rfl,by omega,by omega,?_⟩
   have t6:=t1.next J (B0 F u)
   refine t6.store hi f (w:=⟨s6,A6,n6,c6⟩) z6 ?_
   intro H7 o7 t7 ab
   rw [ew]
   refine ⟨⟨k+1,G6,o7,by omega,rfl,B0 H (B0 F u),t7.congr (fun a b _ _=>?_) (fun _ _=>rfl),fun b V=>by rw [ab b V,A b V]⟩,by simp only [U7];omega⟩
   show (if a=i/\b=k then (M p c*M i k-M i c*M p k).tdiv d else if a=i/\b<k then (M p c*M i b-M i c*M p b).tdiv d else M a b)=_
   grind
 ·have ac:k=T.cols:=by omega
  subst ac
  exact hK hq j q H (t1.congr (fun a b _ V=>by
   by_cases l:a=i
   ·rw [iP ⟨l,V⟩,iP l]
   ·rw [iN (fun x=>l x.1),iN l]) (fun _ _=>rfl)) A
def A84(n:Nat)(s:PS)(h:s.cs=[]):∀ c,(Dh n s c).cs.length<=c:=by
 intro c
 induction c with
 | zero=>show s.cs.length<=0;rw [h];exact aG _
 | succ c ih=>
  show (Eg n c (Dh n s c)).cs.length<=c+1
  unfold Eg
  split
  ·show ((Dh n s c).cs++[c]).length<=c+1
   rw [aD]
   exact Nat.succ_le_succ ih
  ·omega
def A3l(n:Nat)(s:PS)(h:s.last≠0)(hs:s.sgn=1\/s.sgn= -1)(hl:s.cs.length<=n):∀ c,(Dh n s c).last≠0/\((Dh n s c).sgn=1\/(Dh n s c).sgn= -1)/\(Dh n s c).cs.length<=n:=by
 intro c
 induction c with
 | zero=>exact ⟨h,hs,hl⟩
 | succ c ih=>
  obtain ⟨d,e,b⟩:=ih
  show (Eg n c (Dh n s c)).last≠0/\((Eg n c (Dh n s c)).sgn=1\/(Eg n c (Dh n s c)).sgn= -1)/\(Eg n c (Dh n s c)).cs.length<=n
  have f:=A6a n c (Dh n s c) b
  unfold Eg
  by_cases a:So n c (Dh n s c)<n
  ·rw [iP a]
   have:=A1c (fun i=>decide ((Dh n s c).M i c≠0)) (n-(Dh n s c).cs.length) (Dh n s c).cs.length (by unfold So at a;omega)
   refine ⟨by simpa [So] using this,?_,?_⟩
   ·show (if So n c (Dh n s c)=(Dh n s c).cs.length then (Dh n s c).sgn else -(Dh n s c).sgn)=1\/(if So n c (Dh n s c)=(Dh n s c).cs.length then (Dh n s c).sgn else -(Dh n s c).sgn)= -1
    split<;>omega
   ·show ((Dh n s c).cs++[c]).length<=n
    rw [aD]
    simp only [List.length_cons,List.length_nil]
    omega
  ·rw [iN a];exact ⟨d,e,b⟩
def O3{α:Type}[E:Enc α]{P:cC}{t e ty:aZ}{z:bD}{bytes:Nat}(st:SliceT P t e z E.default.size bytes){h g o:aE}{A:Option aI}{c n:Nat}{xs:List α}(s:Sep h g o)(w:OwnSl o e A c xs)(hxn:n=xs.length){v:bD}{y:α}(hv:v.cells=(enc y).toArray)(hsz:E.default.size<=1000)
 (hb:(2*(xs.length+1)+192)*bytes<=281474976710656) (hn:xs.length+1<=9223372036854775807) {K:Option aI->Nat->Nat->aE->Prop}
 (x:∀ A' c' h' g' o',g.le g'->Sep h' g' o'->OwnSl o' e A' c' (xs++[y])->(∀ k u,o k=some u->A≠some ⟨k,0,none⟩->o' k=some u/\A'≠some ⟨k,0,none⟩)->K A' (xs.length+1) c' h'):
 wpH P (bC t 1 #[(0,v)]) (fun v' hp=>∃ (B:Option aI) (m d:Nat),v'= .slice B m d/\wpH P (aS #[t,t] ty #[.slice A n c,.slice B m d]) (fun v1 hp1=>∃ (A':Option aI) (n' c':Nat),v1= .slice A' n' c'/\K A' n' c' hp1) hp) h:=by
 subst hxn
 refine Jx _ (OwnSl.push (ty:=ty) st s w hv hsz hb hn (K1:=fun _=>True) (K:=K) (fun _ _=>trivial) x) ?_
 rintro v' hp ⟨B,m,d,e,_,a⟩
 exact ⟨B,m,d,e,a⟩
def Tab.own(t:Tab h g o T M S):(∃ x,o T.bt=some x)/\(∃ x,o T.bE=some x)/\∃ x,o T.bS=some x:=by
 obtain ⟨e,b⟩:=t.head
 obtain ⟨j,⟨d,k,a⟩,_⟩:=t.elems
 obtain ⟨i,⟨f,l,c⟩,_⟩:=t.scales
 exact ⟨⟨_,b⟩,⟨_,a⟩,⟨_,c⟩⟩
def Tab.keep(t:Tab h g o T M S){h' g' o':aE}(s:Sep h' g' o')(l:g.le g')(hk:∀ k x,o k=some x->k=T.bt\/k=T.bE\/k=T.bS->o' k=some x):Tab h' g' o' T M S:=by
 refine ⟨s,t.n1,t.n2,t.n3,?_,?_,?_,t.cE,t.cS,t.small,t.pos⟩
 ·obtain ⟨e,n⟩:=t.head
  exact ⟨e,hk _ _ n (.inl rfl)⟩
 ·obtain ⟨p,⟨e,ex,c⟩,a,b⟩:=t.elems
  refine ⟨p,⟨e,ex,hk _ _ c (.inr (.inl rfl))⟩,a,fun i j q f=>?_⟩
  obtain ⟨w,e,m⟩:=b i j q f
  exact ⟨w,e,Gn _ _ _ _ l m⟩
 ·obtain ⟨d,⟨e,ex,c⟩,a,b⟩:=t.scales
  exact ⟨d,⟨e,ex,hk _ _ c (.inr (.inr rfl))⟩,a,b.mono H1 l⟩
abbrev zs(l:List Nat):List Int:=l.map fun (n:Nat)=>(n:Int)
def B9d(T:Tb)(A:Option aI):Prop:=A≠some ⟨T.bt,0,none⟩/\A≠some ⟨T.bE,0,none⟩/\A≠some ⟨T.bS,0,none⟩
def A3q(t:Tab h g o T M S){c l nq:Nat}(hc:c<=T.cols)(hm1:1<=m)(hnq:∀ k,k<=c->(Dh T.rows ⟨M,S,[],1,1⟩ k).cs.length<=nq)(hm:2*(3^nq*m)+1<=100000000)(hz:ZbP T.rows T.cols m l ⟨M,S,[],1,1⟩)
 (hK:∀ h' g' o' A cap w,g.le g'->Tab h' g' o' T (Dh T.rows ⟨M,S,[],1,1⟩ c).M (Dh T.rows ⟨M,S,[],1,1⟩ c).S->OwnSl o' F9 A cap (zs (Dh T.rows ⟨M,S,[],1,1⟩ c).cs)->B9d T A->(∀ k x,o k=some x->k≠T.bE->k≠T.bS->o' k=some x/\A≠some ⟨k,0,none⟩)->ZIr g' w (Dh T.rows ⟨M,S,[],1,1⟩ c).last->
  K (.tuple #[.slice A (Dh T.rows ⟨M,S,[],1,1⟩ c).cs.length cap,w.v,I (Dh T.rows ⟨M,S,[],1,1⟩ c).sgn]) h'):aV prog Jf #[.pointer (some ⟨T.bt,0,none⟩),I (c:Int)] h K:=by
 refine B1l _ _ ?_
 unfold B6j
 have a4:=t.small
 refine t.sep.call (Db (by omega) (by omega) ?_)
 intro s1 A1 n1 c1 g1 l1 i1 h1 ai
 have t1:=t.next ai l1
 refine ⟨_,_,_,_,rfl,fun L hp=>∃ (k:Nat) (g' o':aE) (A:Option aI) (cap:Nat) (w:IV),k<=c/\L=[.slice A (Dh T.rows ⟨M,S,[],1,1⟩ k).cs.length cap,I (Dh T.rows ⟨M,S,[],1,1⟩ k).sgn,I k,.bool w.s,.slice w.A w.n w.c]/\g.le g'/\Tab hp g' o' T (Dh T.rows ⟨M,S,[],1,1⟩ k).M (Dh T.rows ⟨M,S,[],1,1⟩ k).S/\OwnSl o' F9 A cap (zs (Dh T.rows ⟨M,S,[],1,1⟩ k).cs)/\B9d T A/\(∀ k x,o k=some x->k≠T.bE->k≠T.bS->o' k=some x/\A≠some ⟨k,0,none⟩)/\ZIr g' w (Dh T.rows ⟨M,S,[],1,1⟩ k).last,
  fun L _=>c-(iAt L 2).toNat,⟨0,g1,o,none,0,⟨s1,A1,n1,c1⟩,by omega,rfl,l1,t1,(OwnSl.nil:OwnSl o F9 none 0 ([]:List Int)),⟨by simp,by simp,by simp⟩,fun k x e _ _=>⟨e,by simp⟩,i1⟩,?_⟩
 rintro pA pn pc az z ls lA ln lc hp ⟨k,g2,o2,A,cap,w,hk,eL,lg,t2,ow,E,ko,iw⟩
 simp only [aX,bU,bM,aT,true_and,and_true] at eL
 obtain ⟨⟨rfl,rfl,rfl⟩,rfl,rfl,rfl,rfl,rfl,rfl⟩:=eL
 have X:=A3l T.rows ⟨M,S,[],1,1⟩ (show (1:Int)≠0 by decide) (.inl rfl) (bY _) k
 have a1:=A84 T.rows ⟨M,S,[],1,1⟩ rfl k
 have O:=hz.run hm1 k (by omega)
 refine B8 (fun a3=>?_) (fun a7=>?_)
 ·have a5:k<c:=by omega
  have J:k<T.cols:=by omega
  have ew:B7 ((k:Int)+1)=((k+1:Nat):Int):=by rw [C1]<;>omega
  have F:Dh T.rows ⟨M,S,[],1,1⟩ (k+1)=Eg T.rows k (Dh T.rows ⟨M,S,[],1,1⟩ k):=rfl
  have ay:3^(Dh T.rows ⟨M,S,[],1,1⟩ k).cs.length*m<=3^nq*m:=aF _ (cG (by decide) (hnq k (by omega)))
  have ac:=A89 (Dh T.rows ⟨M,S,[],1,1⟩ k).cs.length m hm1
  generalize hst0:Dh T.rows ⟨M,S,[],1,1⟩ k=st at *
  have G:fnd (fun i=>decide (st.M i k≠0)) (T.rows-st.cs.length) st.cs.length=So T.rows k st:=rfl
  have a6:=A6a T.rows k st X.2.2
  refine B3t t2 X.2.2 J (fun Q=>?_) (fun Q=>?_)
  ·rw [G] at Q ⊢
   have d:Eg T.rows k st={ M:=clr (fun i=>st.M (xch st.cs.length (So T.rows k st) i)) st.cs.length k st.last,S:=fun i=>st.S (xch st.cs.length (So T.rows k st) i),cs:=st.cs++[k],last:=st.M (So T.rows k st) k,sgn:=if So T.rows k st=st.cs.length then st.sgn else-st.sgn }:=by unfold Eg;rw [iP Q]
   generalize hr:So T.rows k st=r at *
   have B:st.cs.length<T.rows:=by omega
   refine ⟨_,_,rfl,fun L hq=>∃ (g3 N:aE),L=[I (if r=st.cs.length then st.sgn else-st.sgn)]/\g2.le g3/\Tab hq g3 N T (fun i=>st.M (xch st.cs.length r i)) (fun i=>st.S (xch st.cs.length r i))/\∀ b,b≠T.bE->b≠T.bS->N b=o2 b,?_,?_⟩
   ·refine F8 (fun au=>?_) (fun an=>?_)
    ·have f:r≠st.cs.length:=by omega
     refine A3f t2 B Q (fun e=>f e.symm) ?_
     intro h3 N t3 Z
     refine ⟨rfl,g2,N,?_,B5 _,t3,Z⟩
     rw [iN f]
     have:B7 (0-st.sgn)= - st.sgn:=by rw [C1]<;>omega
     rw [this]
    ·have q:r=st.cs.length:=by omega
     refine ⟨g2,o2,by rw [iP q],B5 _,t2.congr (fun i j _ _=>?_) (fun i _=>?_),fun _ _ _=>rfl⟩
     ·rw [q];unfold xch;grind
     ·rw [q];unfold xch;grind
   ·rintro ah h4 ⟨g3,N,ae,l3,t3,Z⟩
    obtain rfl:ah=if r=st.cs.length then st.sgn else-st.sgn:=by simpa using ae
    refine ⟨_,rfl,_,_,_,t3.c2,?_⟩
    have xk:xch st.cs.length r st.cs.length=r:=Ak _ _
    have ak:∀ i,i<T.rows->xch st.cs.length r i<T.rows:=fun i hi=>R8 B Q hi
    refine ⟨fun L hq=>∃ (i:Nat) (g4 W:aE),i<=T.rows/\L=[I i]/\g3.le g4/\Tab hq g4 W T (fun a b=>if a<i/\a≠st.cs.length then clr (fun i=>st.M (xch st.cs.length r i)) st.cs.length k st.last a b else st.M (xch st.cs.length r a) b) (fun i=>st.S (xch st.cs.length r i))/\∀ b,b≠T.bE->W b=N b,fun L _=>T.rows-(iAt L 0).toNat,⟨0,g3,N,by omega,rfl,B5 _,t3.congr (fun a b _ _=>by rw [iN (by omega)]) (fun _ _=>rfl),fun _ _=>rfl⟩,?_⟩
    rintro zi h5 ⟨i,g4,W,hi,am,l4,t4,V⟩
    obtain rfl:=sI1 am
    have aa:B7 ((i:Int)+1)=((i+1:Nat):Int):=by rw [C1]<;>omega
    refine B8 (fun a0=>?_) (fun a2=>?_)
    ·have ab:i<T.rows:=by omega
     refine F8 (fun au=>?_) (fun an=>?_)
     ·have f:i≠st.cs.length:=by omega
      refine Zl (m:=3^st.cs.length*m) t4 ab B f J (Gn _ _ _ _ (B0 l3 l4) iw) X.1 ac (by omega) (fun b H=>?_) (fun b H=>?_) O.last ?_
      ·rw [iN (by omega)];exact O.M _ b (ak i ab) H
      ·rw [iN (by omega),xk];exact O.M r b Q H
      intro h6 g6 o6 l6 t6 av
      refine ⟨rfl,?_⟩
      rw [aa]
      refine ⟨⟨i+1,g6,o6,by omega,rfl,B0 l4 l6,t6.congr (fun a b _ _=>?_) (fun _ _=>rfl),fun b H=>by rw [av b H,V b H]⟩,by simp only [U7];omega⟩
      show (if a=i then ((if st.cs.length<i/\st.cs.length≠st.cs.length then _ else st.M (xch st.cs.length r st.cs.length) k)*(if i<i/\i≠st.cs.length then _ else st.M (xch st.cs.length r i) b)-(if i<i/\i≠st.cs.length then _ else st.M (xch st.cs.length r i) k)*(if st.cs.length<i/\st.cs.length≠st.cs.length then _ else st.M (xch st.cs.length r st.cs.length) b)).tdiv st.last else if a<i/\a≠st.cs.length then clr (fun i=>st.M (xch st.cs.length r i)) st.cs.length k st.last a b else st.M (xch st.cs.length r a) b)=if a<i+1/\a≠st.cs.length then clr (fun i=>st.M (xch st.cs.length r i)) st.cs.length k st.last a b else st.M (xch st.cs.length r a) b
      rw [iN (show ¬ (st.cs.length<i/\st.cs.length≠st.cs.length) by omega),iN (show ¬ (i<i/\i≠st.cs.length) by omega),iN (show ¬ (i<i/\i≠st.cs.length) by omega),iN (show ¬ (st.cs.length<i/\st.cs.length≠st.cs.length) by omega)]
      by_cases ea:a=i
      ·subst ea
       rw [iP rfl,iP ⟨by omega,f⟩]
       unfold clr
       rw [iN f]
      ·rw [iN ea]
       by_cases D:a<i/\a≠st.cs.length
       ·rw [iP D,iP ⟨by omega,D.2⟩]
       ·rw [iN D,iN (by omega)]
     ·have q:i=st.cs.length:=by omega
      rw [aa]
      refine ⟨⟨i+1,g4,W,by omega,rfl,l4,t4.congr (fun a b _ _=>?_) (fun _ _=>rfl),V⟩,by simp only [U7];omega⟩
      by_cases D:a<i/\a≠st.cs.length
      ·rw [iP D,iP ⟨by omega,D.2⟩]
      ·rw [iN D,iN (by omega)]
    ·have aw:i=T.rows:=by omega
     subst aw
     have tF:Tab h5 g4 W T (clr (fun i=>st.M (xch st.cs.length r i)) st.cs.length k st.last) (fun i=>st.S (xch st.cs.length r i)):=t4.congr (fun a b ha _=>by
      by_cases D:a=st.cs.length
      ·rw [iN (by omega),D];unfold clr;rw [iP rfl]
      ·rw [iP ⟨ha,D⟩]) (fun _ _=>rfl)
     refine O5 tF B ⟨_,_,_,rfl,_,rfl,by omega,by omega,?_⟩
     obtain ⟨wl,zl,d0,d1⟩:=tF.at B J
     have ao:ZIr g4 wl (st.M r k):=by
      have:clr (fun i=>st.M (xch st.cs.length r i)) st.cs.length k st.last st.cs.length k=st.M r k:=by unfold clr;rw [iP rfl];show st.M (xch st.cs.length r st.cs.length) k=_;rw [xk]
      rw [this] at zl;exact zl
     refine ⟨_,_,_,_,d0,d1,?_⟩
     have C:∀ b,b≠T.bE->b≠T.bS->W b=o2 b:=fun b h1 h2=>by rw [V b h1,Z b h1 h2]
     have ag:OwnSl W F9 pA pc (zs st.cs):=ow.keep fun b x hA H=>by
      rw [C b (fun e=>E.2.1 (by rw [<- e];exact hA)) (fun e=>E.2.2 (by rw [<- e];exact hA))];exact H
     have u:(zs st.cs).length=st.cs.length:=by simp
     refine O3 (ty:=Gc) C3n tF.sep ag (by simp) (y:=((k:Nat):Int)) rfl (by decide) (by rw [u];omega) (by rw [u];omega) ?_
     intro A' c' h' g' o' R s' al p
     obtain ⟨⟨x1,aj⟩,⟨x2,ar⟩,⟨x3,ax⟩⟩:=tF.own
     have t':=tF.keep s' R (fun kk x e af=>by
      rcases af with rfl|rfl|rfl
      ·exact (p _ _ e E.1).1
      ·exact (p _ _ e E.2.1).1
      ·exact (p _ _ e E.2.2).1)
     rw [u,ew]
     have ad:(st.cs++[k]).length=st.cs.length+1:=by simp
     refine ⟨⟨k+1,g',o',A',c',wl,by omega,?_,B0 lg (B0 l3 (B0 l4 R)),?_⟩,?_⟩
     ·rw [F,d,ad]
     ·rw [F,d]
      refine ⟨t',by simpa [zs] using al,⟨(p _ _ aj E.1).2,(p _ _ ar E.2.1).2,(p _ _ ax E.2.2).2⟩,fun kk x e h1 h2=>?_,Gn _ _ _ _ R ao⟩
      obtain ⟨e2,aq⟩:=ko kk x e h1 h2
      exact p kk x (by rw [C kk h1 h2];exact e2) aq
     ·show c-((k+1:Nat):Int).toNat<c-((k:Nat):Int).toNat
      omega
  ·rw [G] at Q
   have d:Eg T.rows k st=st:=by unfold Eg;rw [iN (by omega)]
   refine ⟨_,_,rfl,?_⟩
   rw [ew]
   refine ⟨⟨k+1,g2,o2,pA,pc,w,by omega,by rw [F,d],lg,?_⟩,?_⟩
   ·rw [F,d];exact ⟨t2,ow,E,ko,iw⟩
   ·show c-((k+1:Nat):Int).toNat<c-((k:Nat):Int).toNat
    omega
 ·have:k=c:=by omega
  subst this
  exact hK hp g2 o2 pA pc w lg t2 ow E ko iw
end
section
variable {h:aE} {K:VP} {A B:Option aI} {n c n' c' m:Nat} {s s':Bool} {x y:Int}
def C1o:RQ h ⟨false,none,0,0,false,none,0,0⟩ 0:=⟨ZI.zero,ZI.zero⟩
def A85{z:Int}(i:ZI h s A n c z):RQ h ⟨s,A,n,c,false,none,0,0⟩ (z:Rat):=⟨by simpa using i,by simpa using ZI.zero⟩
def T4(gl:Gtz h)(ix:ZI h s A n c x)(iy:ZI h s' B n' c' y)(hx:ZB m x)(hy:ZB m y)(hm:m<=6400000000)(hK:∀ w h',h.le h'->RQ h' w (bN x y)->K w.v h'):aV prog S4 #[.agg #[.bool s,.slice A n c],.agg #[.bool s',.slice B n' c']] h K:=by
 refine A54 _ _ _ _ _ _ _ _ ?_
 unfold A55
 refine ⟨fun L J=>J=h/\((L=[.bool true]/\bN x y=0)\/(L=[.bool false]/\y≠0)),?_,?_⟩
 ·refine F5 iy ⟨_,rfl,B8 (fun e=>⟨rfl,.inl ⟨rfl,by rw [e];exact Rat.divInt_zero x⟩⟩) (fun e=>F5 ix ⟨_,rfl,rfl,?_⟩)⟩
  by_cases p:x=0
  ·exact .inl ⟨by rw [decide_eq_true p],by rw [p];exact Rat.zero_divInt y⟩
  ·exact .inr ⟨by rw [decide_eq_false p],e⟩
 rintro t J ⟨rfl,hL⟩
 refine Br.of (fun e=>?_) (fun e=>?_)
 ·rcases hL with ⟨_,F⟩|⟨j,_⟩
  ·rw [F] at hK
   exact hK _ _ (B5 _) C1o
  ·simp at j;rw [e] at j;cases j
 have ab:y≠0:=by
  rcases hL with ⟨j,_⟩|⟨_,F⟩
  ·simp at j;rw [e] at j;cases j
  ·exact F
 refine ⟨fun l z=>∃ s A n c s' B n' c' d f,l=[.bool s,.slice A n c,.bool s',.slice B n' c']/\J.le z/\ZI z s A n c d/\ZI z s' B n' c' f/\0<f/\bN d f=bN x y/\ZB m d/\ZB m f,?_,?_⟩
 ·refine Qa iy ⟨_,rfl,B8 (fun e=>?_) (fun e=>?_)⟩
  ·have Z:y<0:=by rwa [Int.sign_neg_iff] at e
   refine Dc ix ?_
   intro X o
   refine ⟨_,_,_,_,rfl,B5 _,?_⟩
   refine Dc iy ?_
   intro V u
   exact ⟨_,_,_,_,rfl,B5 _,_,_,_,_,_,_,_,_,-x,-y,rfl,B5 _,o,u,by omega,Rat.neg_divInt_neg x y,hx.neg,hy.neg⟩
  ·have g:0<y:=by rw [Int.sign_neg_iff] at e;omega
   exact ⟨_,_,_,_,_,_,_,_,x,y,rfl,B5 _,ix,iy,g,rfl,hx,hy⟩
 rintro X A1 n1 c1 V A2 n2 c2 ac ⟨G,A1',H,S,R,A2',M,N,d,f,hl,i,o,u,g,z,C,k⟩
 obtain ⟨rfl,⟨rfl,rfl,rfl⟩,rfl,rfl,rfl,rfl⟩:X=G/\(A1=A1'/\n1=H/\c1=S)/\V=R/\A2=A2'/\n2=M/\c2=N:=by simpa using hl
 rw [<- z] at hK
 refine V3 u ⟨_,rfl,B8 (fun W=>?_) (fun W=>?_)⟩
 ·rw [W,Kp] at hK
  exact hK _ _ i (A85 o)
 refine Dd (gl.mono i) o u C k hm ?_
 intro A3 n3 c3 h3 r T
 refine ⟨_,_,_,_,rfl,?_⟩
 generalize hqq:bN d f=q at *
 have b:q.num=d/(cQ d f:Int):=by
  rw [<- hqq,Rat.num_divInt,Int.sign_eq_one_of_pos g,Int.one_mul,Int.gcd_comm]
 have a:(q.den:Int)=f/(cQ d f:Int):=by
  rw [<- hqq,Rat.den_divInt,iN (by omega),Int.gcd_comm,Int.natCast_ediv,Int.natAbs_of_nonneg (by omega)]
 have aa:0<cQ d f:=Int.gcd_pos_of_ne_zero_right d (by omega)
 have D:ZB m (cQ d f:Int):=ZB.gcd (by omega) k
 refine V3 T ⟨_,rfl,Br.not (B8 (fun p=>?_) (fun p=>?_))⟩
 ·rw [p] at b a
  simp at b a
  refine V4 (q:=q) (o.mono r) (u.mono r) b a ?_
  intro w O
  exact ⟨_,_,_,_,_,_,_,_,rfl,hK _ _ (B0 i r) O⟩
 ·refine R7 (o.mono r) T C D hm (by omega) ?_
  intro s4 A4 n4 c4 h4 E i4
  refine ⟨_,_,_,_,rfl,E,?_⟩
  refine R7 ((u.mono r).mono E) (T.mono E) k D hm (by omega) ?_
  intro s5 A5 n5 c5 h5 Q i5
  refine ⟨_,_,_,_,rfl,Q,?_⟩
  refine V4 (q:=q) (i4.mono Q) i5 (by rw [b,cZ (Int.gcd_dvd_left d f)]) (by rw [a,cZ (Int.gcd_dvd_right d f)]) ?_
  intro w O
  exact ⟨_,_,_,_,_,_,_,_,rfl,hK _ _ (B0 i (B0 r (B0 E Q))) O⟩
end
section
variable {α:Type} [E:Enc α]
def OwnSl.store{P:cC}{t e:aZ}(one:P.cellsOf t=E.default.size/\(P.info? t).isSome=true){v:bD}{y:α}(hv:v.cells=(enc y).toArray){h g o:aE}{A:Option aI}{c:Nat}{xs:List α}(s:Sep h g o)(w:OwnSl o e A c xs){i b:Nat}(hi:i<xs.length)(hA:A=some ⟨b,0,none⟩){K:Unit->aE->Prop}
 (x:∀ h' o',Sep h' g o'->OwnSl o' e A c (xs.set i y)->(∀ k,k≠b->o' k=o k)->K () h'):wpH P (aO t (.pointer (some (aC ⟨b,0,none⟩ (i*E.default.size)))) v) K h:=by
 rcases w.2 with ⟨D,_⟩|⟨F,j,d,r,n,C⟩
 ·exfalso;have:=w.1;omega
 ·rw [hA] at d
  simp only [aJ,aP,and_true] at d
  subst d
  obtain ⟨ex,hex⟩:∃ ex,j=xs.flatMap enc++ex:=⟨j.drop (xs.length*E.default.size),by rw [<- C,List.take_append_drop]⟩
  rw [hex] at r n
  obtain ⟨u,f⟩:=Option.isSome_iff_exists.1 one.2
  have B:u.size=E.default.size:=by simpa [Program.cellsOf,f] using one.1
  have m:=E.default.len y
  have q:(i+1)*E.default.size<=xs.length*E.default.size:=aF _ hi
  rw [aL,aQ] at q
  have a:(h.without b).put b (.cells (xs.flatMap enc++ex).toArray e)=h:=M0 (s.own b _ r)
  unfold aO
  simp only [C8,Instr.sureAddr,H8,storeVar,L9 f,B,hv,List.size_toArray,m,ne_eq,not_true_eq_false,if_false]
  rw [E6,aN,<- a]
  refine J9 (enc y) (i*E.default.size) 0 _ (by rw [aD,L7,m];omega) (E.default.one y) ?_
  have l:L3 (xs.flatMap enc++ex) (i*E.default.size+0) (enc y)=(xs.set i y).flatMap enc++ex:=by
   rw [cF,<- A1d xs hi]
   unfold L3
   rw [cN (by rw [L7];omega),List.drop_append_of_le_length (by rw [L7,m];omega),cL,cL,cL]
  rw [l]
  have p:(h.without b).put b (.cells ((xs.set i y).flatMap enc++ex).toArray e)=h.put b (.cells ((xs.set i y).flatMap enc++ex).toArray e):=by
   rw [<- a,Jv,a]
  rw [p]
  refine x _ _ (s.upd r _) ⟨by simpa using w.1,.inr ⟨b,(xs.set i y).flatMap enc++ex,hA,C2 _ _ _,?_,?_⟩⟩ (fun k z=>C0 _ _ z)
  ·rw [aD,L7] at n ⊢
   simpa using n
  ·rw [cN (by rw [L7];omega),List.take_of_length_le (by rw [L7];omega)]
end
section
variable {h g:aE} {K:VP} {A:Option aI} {n c cols:Nat}
def B63(h:aE)(v:bD)(A:Option aI)(n c cols:Nat):Prop:=∃ f0 f1:aI,v= .func (.func Ja) #[] #[.pointer (some f0),.pointer (some f1)]/\h.cell? f0=some (.slice A n c)/\h.cell? f1=some (I (cols:Int))
def Zm(hc:1<=cols)(hK:∀ v h',h.le h'->B63 h' v A n c cols->K v h'):aV prog Tn #[.slice A n c,I (cols:Int)] h K:=by
 refine B5y _ _ _ _ ?_
 unfold C0s
 refine Wg ?_
 intro b f
 refine ⟨_,rfl,Wg ?_⟩
 intro d a
 have c1:Heap.cell? ((h.put b (.cells (bG (.slice A n c)) U3)).put d (.cells (bG (I (cols:Int))) 3)) ⟨d,0,none⟩=some (I (cols:Int)):=by rw [E8];rfl
 refine ⟨_,rfl,_,c1,B8 (fun e=>by omega) (fun _=>hK _ _ (B0 (Heap.le_put _ f) (Heap.le_put _ a)) ⟨⟨b,0,none⟩,⟨d,0,none⟩,rfl,?_,c1⟩)⟩
 refine B9 (Heap.le_put _ a) ?_
 rw [E8];rfl
def Un{g0:aE}{v:bD}{rows:Nat}(ic:B63 g0 v A (rows*cols) c cols)(hc:1<=cols)(hn:rows*cols<=1000000000)(hcap:rows*cols<=c){B:List bD->aE->(aE->Prop)->Prop}{K:aE->Prop}(J:Nat->aE->Prop)(h0:J 0 h)(hle:∀ k h,J k h->g0.le h)
 (hB:∀ k h1,k<rows->J k h1->B [.slice (I5 A ((k+1)*cols) (k*cols) 4) cols cols] h1 (J (k+1))) (hK:∀ h1,J rows h1->K h1):A56 prog v h B K:=by
 obtain ⟨g,j,rfl,C,s⟩:=ic
 refine ⟨Ja,#[],#[.pointer (some g),.pointer (some j)],rfl,A2o,?_⟩
 intro l rec z a
 have E:(#[] ++ #[.func (.yield l) #[] #[]] ++ #[.pointer (some g),.pointer (some j)]:Array bD)=#[.func (.yield l) #[] #[],.pointer (some g),.pointer (some j)]:=by simp
 rw [E]
 refine B1e l g j ?_
 unfold B5z
 refine ⟨fun L u=>∃ (k:Nat) (h1:aE),k<=rows/\L=[I ((k*cols:Nat):Int)]/\h1 l=none/\u=h1.put l (.loop rec)/\J k h1,fun L _=>rows*cols-(iAt L 0).toNat,⟨0,h,by omega,by simp,z,rfl,h0⟩,?_⟩
 rintro i u ⟨k,h1,O,H,b,rfl,m⟩
 obtain rfl:i=((k*cols:Nat):Int):=by simpa using H
 have w:=B0 (hle k h1 m) (Heap.le_put (.loop rec) b)
 have p:=B9 w C
 have N:=B9 w s
 refine ⟨_,_,_,p,B8 (fun D=>?_) (fun M=>?_)⟩
 ·have e:k<rows:=by
   by_cases q:k<rows
   ·exact q
   ·exfalso
    have:rows*cols<=k*cols:=aF _ (by omega)
    omega
  have R:(k+1)*cols<=rows*cols:=aF _ e
  have Q:(k+1)*cols=k*cols+cols:=by rw [aL,aQ]
  have F:(if ((rows*cols-(((k*cols:Nat):Int)).toNat:Nat):Int)<(cols:Int) then ((rows*cols-(((k*cols:Nat):Int)).toNat:Nat):Int) else (cols:Int))=(cols:Int):=by
   rw [iN (by simp only [aY];omega)]
  have t:B7 (((k*cols:Nat):Int)+(cols:Int))=(((k+1)*cols:Nat):Int):=by rw [C1]<;>omega
  refine ⟨_,N,_,_,_,p,⟨by omega,by omega⟩,_,_,_,p,?_⟩
  rw [F,t]
  simp only [aY]
  have G:(k+1)*cols-k*cols=cols:=by omega
  rw [G]
  refine ⟨⟨by omega,by omega⟩,⟨by omega,by omega⟩,⟨by omega,by omega⟩,?_⟩
  refine (a _ h1 (J (k+1)) b (hB k h1 e m)).mono ?_
  rintro r S ⟨rfl,y,d,rfl,f⟩
  refine ⟨_,rfl,?_⟩
  show ∃ (t11:Int),_
  have n:=B0 (hle _ y f) (Heap.le_put (.loop rec) d)
  refine ⟨_,B9 n s,?_⟩
  rw [t]
  exact ⟨⟨k+1,y,by omega,rfl,d,rfl,f⟩,by simp only [U7];omega⟩
 ·have o:k=rows:=by
   by_cases q:k=rows
   ·exact q
   ·exfalso
    have:(k+1)*cols<=rows*cols:=aF _ (by omega)
    rw [aL,aQ] at this
    omega
  subst o
  exact ⟨h1,b,rfl,hK h1 m⟩
end
section
variable {α:Type} [E:Enc α]
def Xd{P:cC}{t e:aZ}{z:bD}{bytes:Nat}(st:SliceT P t e z E.default.size bytes){h g o:aE}{A:Option aI}{c:Nat}{xs:List α}(s:Sep h g o)(w:OwnSl o e A c xs){v:bD}{y:α}(hv:v.cells=(enc y).toArray)(hsz:E.default.size<=1000)
 (hb:(2*(xs.length+1)+192)*bytes<=281474976710656) (hn:xs.length+1<=9223372036854775807) {K:VP}
 (x0:∀ B m d hp,h.le hp->(∀ {ty:aZ} {K2:VP},(∀ A' c' h' g' o',g.le g'->Sep h' g' o'->OwnSl o' e A' c' (xs++[y])->(∀ k u,o k=some u->A≠some ⟨k,0,none⟩->o' k=some u/\A'≠some ⟨k,0,none⟩)->K2 (.slice A' (xs.length+1) c') h')->wpH P (aS #[t,t] ty #[.slice A xs.length c,.slice B m d]) K2 hp)->K (.slice B m d) hp):
 wpH P (bC t 1 #[(0,v)]) K h:=by
 obtain ⟨gb,p,H⟩:=w.priv s
 refine Og st (vs:=[v]) (fun u hu=>by rw [List.mem_singleton.1 hu,hv];simp [E.default.len]) rfl (by simp;omega) rfl ?_
 intro b i
 have T:[v].flatMap (fun v=>v.cells.toList)=[y].flatMap enc:=by simp [hv]
 rw [T]
 refine x0 _ _ _ _ (Heap.le_put _ i) (fun {ty K2} x=>?_)
 have p':PrivF (h.put b (.cells ([y].flatMap enc).toArray e)) (gb.put b (.cells ([y].flatMap enc).toArray e)) e A c xs:=Priv.put p i _
 refine Kr st p' (ys:=[y]) rfl (B4o e h b [y]) hb hn ?_
 intro A' c' h' g' hg hp
 rw [aD]
 have G:∀ k u,h k=some u->A≠some ⟨k,0,none⟩->g' k=some u:=by
  intro k u a Q
  have f:k≠b:=by rintro rfl;rw [i] at a;cases a
  exact hg k u (by rw [C0 _ _ f];exact H k u a Q)
 have S:∀ k u,g k=some u->A≠some ⟨k,0,none⟩:=by
  intro k u a r
  rcases w.2 with ⟨_,V⟩|⟨j,n,l,q,_⟩
  ·rw [r] at V;cases V
  ·rw [r] at l
   simp only [aJ,aP,and_true] at l
   subst l
   rw [s.dis k _ q] at a;cases a
 rcases hp.2.2 with ⟨aa,_⟩|⟨j,n,l,q,L,ha,ht⟩
 ·exfalso
  have:=hp.2.1
  rw [aD] at this
  simp at this
  omega
 ·subst l
  let o':aE:=fun k=>if k=j then some (.cells (bK n) e) else if A=some ⟨k,0,none⟩ then none else o k
  have X:o' j=some (.cells (bK n) e):=by show (if j=j then _ else _)=_;rw [iP rfl]
  have ok:∀ k,k≠j->A≠some ⟨k,0,none⟩->o' k=o k:=fun k J C=>by show (if k=j then _ else if _ then _ else _)=_;rw [iN J,iN C]
  have O:∀ k,k≠j->A=some ⟨k,0,none⟩->o' k=none:=fun k J C=>by show (if k=j then _ else if _ then _ else _)=_;rw [iN J,iP C]
  let g2:aE:=fun k=>match o' k with|some _=>none|none=>h' k
  have gs:∀ k u,o' k=some u->g2 k=none:=fun k u a=>by show (match o' k with|some _=>none|none=>h' k)=_;rw [a]
  have Z:∀ k,o' k=none->g2 k=h' k:=fun k a=>by show (match o' k with|some _=>none|none=>h' k)=_;rw [a]
  have D:∀ k u,k≠j->g' k=some u->h' k=some u:=fun k u J a=>by rw [L,C0 _ _ J];exact a
  have M:∀ k u,o k=some u->A≠some ⟨k,0,none⟩->k≠j:=by
   rintro k u a C rfl
   have:=G k u (s.own k u a) C
   rw [q] at this;cases this
  refine x _ c' h' g2 o' (fun k u a=>?_) ⟨fun k u a=>?_,fun k a=>(Z k a).symm,gs⟩ ⟨hp.2.1,.inr ⟨j,n,rfl,X,ha,ht⟩⟩ (fun k u a C=>?_)
  ·have N:o k=none:=by
    cases ho:o k with
    | none=>rfl
    | some y=>rw [s.dis k y ho] at a;cases a
   have r:=S k u a
   have R:=G k u (s.le k u a) r
   have F:k≠j:=by rintro rfl;rw [q] at R;cases R
   rw [Z k (by rw [ok k F r];exact N)]
   exact D k u F R
  ·by_cases f:k=j
   ·subst f
    rw [X] at a;cases a
    rw [L,C2]
   ·by_cases r:A=some ⟨k,0,none⟩
    ·rw [O k f r] at a;cases a
    ·rw [ok k f r] at a
     exact D k u f (G k u (s.own k u a) r)
  ·have f:=M k u a C
   refine ⟨by rw [ok k f C];exact a,fun W=>f ?_⟩
   simp only [aJ,aP,and_true] at W
   exact W.symm
end
def A2g{P:cC}{t:aZ}(one:P.cellsOf t=1/\(P.info? t).isSome=true){v:bD}(hv:A5q v=true)(hc:v.cells=#[v]){h g o:aE}(s:Sep h g o){b:Nat}{cs:Array bD}{e:aZ}(hb:o b=some (.cells cs e)){i:Nat}(hi:i<cs.size){K:Unit->aE->Prop}
 (x:∀ h' o',Sep h' g o'->o'=o.put b (.cells (cs.setIfInBounds i v) e)->K () h'):wpH P (aO t (.pointer (some (aC ⟨b,0,none⟩ i))) v) K h:=by
 rw [E6,aN]
 have a:h.put b (.cells cs e)=h:=A2p (s.own b _ hb)
 rw [<- a]
 refine Ey one.1 one.2 hv hc hi ?_
 exact x _ _ (s.upd hb _) rfl
structure NT (o:aE) (bp bt cols:Nat) (es:List IV) (ss:List QV) (A:Option aI) (c:Nat) (A':Option aI) (c':Nat):Prop where
 hp:∃ e,o bp=some (.cells #[.pointer (some ⟨bt,0,none⟩)] e)
 ht:∃ e,o bt=some (.cells #[I (cols:Int),.slice A es.length c,.slice A' ss.length c'] e)
 oe:OwnSl o Fz A c es
 os:OwnSl o G2 A' c' ss
 ne:bp≠bt
 a1:A≠some ⟨bp,0,none⟩/\A≠some ⟨bt,0,none⟩
 a2:A'≠some ⟨bp,0,none⟩/\A'≠some ⟨bt,0,none⟩
 a3:∀ b,A=some ⟨b,0,none⟩->A'≠some ⟨b,0,none⟩
section
variable {h g o:aE} {bp bt cols:Nat} {es:List IV} {ss:List QV} {A A':Option aI} {c c':Nat}
def NT.cp(n:NT o bp bt cols es ss A c A' c')(s:Sep h g o):h.cell? ⟨bp,0,none⟩=some (.pointer (some ⟨bt,0,none⟩)):=by
 obtain ⟨e,a⟩:=n.hp
 refine s.cell ?_
 unfold Heap.cell?;simp only [a];rfl
def NT.c1(n:NT o bp bt cols es ss A c A' c')(s:Sep h g o):h.cell? (aC ⟨bt,0,none⟩ 1)=some (.slice A es.length c):=by
 obtain ⟨e,a⟩:=n.ht
 refine s.cell ?_
 rw [E6];unfold Heap.cell?;simp only [a];rfl
def NT.c2(n:NT o bp bt cols es ss A c A' c')(s:Sep h g o):h.cell? (aC ⟨bt,0,none⟩ 2)=some (.slice A' ss.length c'):=by
 obtain ⟨e,a⟩:=n.ht
 refine s.cell ?_
 rw [E6];unfold Heap.cell?;simp only [a];rfl
def B7d:prog.cellsOf Rp=1/\(prog.info? Rp).isSome=true:=by constructor<;>kernel_rfl
def B7c:prog.cellsOf U3=1/\(prog.info? U3).isSome=true:=by constructor<;>kernel_rfl
def NT.buildE(n:NT o bp bt cols es ss A c A' c')(s:Sep h g o)(w:IV)(hl:es.length<=100000000){F:aE->Prop}(hF:∀ h' g' o' A2 c2,g.le g'->Sep h' g' o'->NT o' bp bt cols (es++[w]) ss A2 c2 A' c'->F h'){K:VP}
 (x:∀ B m d hp,h.le hp->hp.cell? ⟨bp,0,none⟩=some (.pointer (some ⟨bt,0,none⟩))->(∀ {K2:VP},(∀ A2 c2 h2,h2.cell? ⟨bp,0,none⟩=some (.pointer (some ⟨bt,0,none⟩))->wpH prog (aO Rp (.pointer (some (aC ⟨bt,0,none⟩ 1))) (.slice A2 (es.length+1) c2)) (fun _ h3=>F h3) h2->K2 (.slice A2 (es.length+1) c2) h2)->wpH prog (aS #[Rp,Rp] Rp #[.slice A es.length c,.slice B m d]) K2 hp)->K (.slice B m d) hp):
 wpH prog (bC Rp 1 #[(0,w.v)]) K h:=by
 refine Xd tZs s n.oe (y:=w) rfl (by decide) (by omega) (by omega) ?_
 intro B m d hp J j
 refine x B m d hp J (B9 J (n.cp s)) (fun {K2} p=>j ?_)
 intro A2 c2 h2 M H S C R keep
 obtain ⟨L,u⟩:=n.hp
 obtain ⟨Q,z⟩:=n.ht
 have t:=keep bp _ u n.a1.1
 have q:=keep bt _ z n.a1.2
 refine p A2 c2 h2 ?_ ?_
 ·refine C.cell ?_
  unfold Heap.cell?;simp only [t.1];rfl
 ·refine A2g B7d rfl rfl C q.1 (by simp) ?_
  intro h3 D T E
  have ko:∀ k,k≠bt->D k=H k:=fun k p=>by rw [E,C0 _ _ p]
  refine hF h3 M D A2 c2 S T ⟨⟨L,by rw [ko _ n.ne];exact t.1⟩,⟨Q,by rw [E,C2];simp⟩,R.keep fun b y f l=>by rw [ko b (fun e=>q.2 (by rw [<- e];exact f))];exact l,?_,n.ne,⟨t.2,q.2⟩,n.a2,?_⟩
  ·refine (n.os.keep (o':=H) fun b y f l=>(keep b y l (fun e=>n.a3 b e f)).1).keep fun b y f l=>by rw [ko b (fun e=>n.a2.2 (by rw [<- e];exact f))];exact l
  ·intro b f a
   rcases n.os.2 with ⟨_,N⟩|⟨G,O,i,r,_⟩
   ·rw [N] at a;cases a
   ·rw [i] at a
    simp only [aJ,aP,and_true] at a
    subst a
    exact (keep G _ r (fun e=>n.a3 G e i)).2 f
def NT.buildS(n:NT o bp bt cols es ss A c A' c')(s:Sep h g o)(w:QV)(hl:ss.length<=100000000){F:aE->Prop}(hF:∀ h' g' o' A2 c2,g.le g'->Sep h' g' o'->NT o' bp bt cols es (ss++[w]) A c A2 c2->F h'){K:VP}
 (x:∀ B m d hp,h.le hp->hp.cell? ⟨bp,0,none⟩=some (.pointer (some ⟨bt,0,none⟩))->(∀ {K2:VP},(∀ A2 c2 h2,h2.cell? ⟨bp,0,none⟩=some (.pointer (some ⟨bt,0,none⟩))->wpH prog (aO U3 (.pointer (some (aC ⟨bt,0,none⟩ 2))) (.slice A2 (ss.length+1) c2)) (fun _ h3=>F h3) h2->K2 (.slice A2 (ss.length+1) c2) h2)->wpH prog (aS #[U3,U3] U3 #[.slice A' ss.length c',.slice B m d]) K2 hp)->K (.slice B m d) hp):
 wpH prog (bC U3 1 #[(0,w.v)]) K h:=by
 refine Xd A9v s n.os (y:=w) rfl (by decide) (by omega) (by omega) ?_
 intro B m d hp H f
 refine x B m d hp H (B9 H (n.cp s)) (fun {K2} j=>f ?_)
 intro A2 c2 h2 L G R u Q keep
 obtain ⟨J,r⟩:=n.hp
 obtain ⟨O,t⟩:=n.ht
 have q:=keep bp _ r n.a2.1
 have l:=keep bt _ t n.a2.2
 refine j A2 c2 h2 ?_ ?_
 ·refine u.cell ?_
  unfold Heap.cell?;simp only [q.1];rfl
 ·refine A2g B7c rfl rfl u l.1 (by simp) ?_
  intro h3 z S C
  have ko:∀ k,k≠bt->z k=G k:=fun k j=>by rw [C,C0 _ _ j]
  refine hF h3 L z A2 c2 R S ⟨⟨J,by rw [ko _ n.ne];exact q.1⟩,⟨O,by rw [C,C2];simp⟩,?_,Q.keep fun b y a i=>by rw [ko b (fun e=>l.2 (by rw [<- e];exact a))];exact i,n.ne,n.a1,⟨q.2,l.2⟩,?_⟩
  ·refine (n.oe.keep (o':=G) fun b y a i=>(keep b y i (fun e=>n.a3 b a e)).1).keep fun b y a i=>by rw [ko b (fun e=>n.a1.2 (by rw [<- e];exact a))];exact i
  ·intro b a
   rcases n.oe.2 with ⟨_,M⟩|⟨D,N,E,p,_⟩
   ·rw [M] at a;cases a
   ·rw [E] at a
    simp only [aJ,aP,and_true] at a
    subst a
    exact (keep D _ p (fun e=>n.a3 D E e)).2
end
def A3m(E:Nat->Rat)(cols i:Nat):Nat->Rat:=fun j=>E (i*cols+j)
def B2k(E:Nat->Rat)(cols i j:Nat):Int:=scl (A3m E cols i j) (Cb (A3m E cols i) cols:Int)
def B6p(E:Nat->Rat)(cols i:Nat):Nat->Nat
 | 0=>0
 | j+1=>cQ (B6p E cols i j:Int) (B2k E cols i j)
def Zk(E:Nat->Rat)(cols i:Nat):Nat:=if B6p E cols i cols=0 then 1 else B6p E cols i cols
def A0k(E:Nat->Rat)(cols i j:Nat):Int:=(B2k E cols i j).tdiv (Zk E cols i:Int)
def Uf(E:Nat->Rat)(cols i:Nat):Rat:=bN (Cb (A3m E cols i) cols:Int) (Zk E cols i:Int)
def B7w(E:Nat->Rat)(cols i:Nat):∀ n j,j<n->(B6p E cols i n:Int)∣B2k E cols i j:=by
 intro n
 induction n with
 | zero=>intro j h;omega
 | succ n ih=>
  intro j a
  by_cases e:j=n
  ·subst e;exact Int.gcd_dvd_right _ _
  ·exact Int.dvd_trans (Int.gcd_dvd_left _ _) (ih j (by omega))
def Tv(E:Nat->Rat)(cols i:Nat):0<Zk E cols i:=by unfold Zk;split<;>omega
def B88(E:Nat->Rat)(cols i:Nat){j:Nat}(hj:j<cols):(Zk E cols i:Int)∣B2k E cols i j:=by
 unfold Zk
 split
 ·exact Int.one_dvd _
 ·exact B7w E cols i cols j hj
def B28(E:Nat->Rat)(cols i:Nat){j:Nat}(hj:j<cols):(A0k E cols i j:Rat)=Uf E cols i*E (i*cols+j):=by
 have f:=Tv E cols i
 have a:((Zk E cols i:Nat):Int)≠0:=by omega
 have b:((A0k E cols i j:Int):Rat)*((Zk E cols i:Nat):Int)=E (i*cols+j)*((Cb (A3m E cols i) cols:Nat):Int):=by
  rw [<- aW]
  unfold A0k
  rw [Int.tdiv_mul_cancel (B88 E cols i hj)]
  exact B2f (by
   have:=A16 (A3m E cols i) cols j hj
   exact Int.natCast_dvd_natCast.2 this)
 have e:=J7 a
 unfold Uf
 rw [bX]
 have c:(((Cb (A3m E cols i) cols:Nat):Int):Rat)/(((Zk E cols i:Nat):Int):Rat)*E (i*cols+j)=E (i*cols+j)*(((Cb (A3m E cols i) cols:Nat):Int):Rat)/(((Zk E cols i:Nat):Int):Rat):=by
  rw [bW,bW];grind
 rw [c,<- b]
 generalize (((Zk E cols i:Nat):Int):Rat)=d at *
 rw [bW]
 grind
def Np(E:Nat->Rat)(cols i:Nat):0<Uf E cols i:=by
 unfold Uf
 rw [bX]
 have b:(0:Rat)<((Cb (A3m E cols i) cols:Nat):Int):=by
  have:=A15 (A3m E cols i) cols
  exact_mod_cast this
 have a:(0:Rat)<((Zk E cols i:Nat):Int):=by
  have:=Tv E cols i
  exact_mod_cast this
 rw [bW]
 exact Rat.mul_pos b (Rat.inv_pos.2 a)
def ZB.gcd2{k:Nat}{x y:Int}(hx:ZB k x)(hy:ZB k y):ZB k (cQ x y:Int):=by
 by_cases h:y=0
 ·subst h
  rw [Int.gcd_zero_right]
  unfold ZB at *
  simpa using hx
 ·exact ZB.gcd h hy
section
variable {E:Nat->Rat} {cols i m:Nat}
def A0s(h:∀ j,j<cols->Sz m (E (i*cols+j))){j:Nat}(hj:j<cols):ZB (1+cols*m+m) (B2k E cols i j):=by
 have:=B2e (h j hj) (Lu (f:=A3m E cols i) cols h)
 exact this.mono (by omega)
def B3o(h:∀ j,j<cols->Sz m (E (i*cols+j))):∀ j,j<=cols->ZB (1+cols*m+m) (B6p E cols i j:Int):=by
 intro j
 induction j with
 | zero=>intro _;exact ZB.zero
 | succ j ih=>intro a;exact (ih (by omega)).gcd2 (A0s h (by omega))
def A28(h:∀ j,j<cols->Sz m (E (i*cols+j))):ZB (1+cols*m+m) (Zk E cols i:Int):=by
 unfold Zk
 split
 ·exact ZB.one (by omega)
 ·exact B3o h cols (aG _)
def B27(h:∀ j,j<cols->Sz m (E (i*cols+j))){j:Nat}(hj:j<cols):ZB (1+cols*m+m) (A0k E cols i j):=(A0s h hj).tdiv
def A0j(h:∀ j,j<cols->Sz m (E (i*cols+j))):Sz (1+cols*m+m) (Uf E cols i):=by
 have:=Tv E cols i
 exact U6 (by omega) ((Lu (f:=A3m E cols i) cols h).mono (by omega)) (A28 h)
end
structure EsOk (g:aE) (E:Nat->Rat) (cols k:Nat) (es:List IV) (V:Nat->Int) (j:Nat):Prop where
 len:es.length=k*cols+j
 rows:∀ a b,a<k->b<cols->∃ w,es[a*cols+b]? = some w/\ZIr g w (A0k E cols a b)
 last:∀ b,b<j->∃ w,es[k*cols+b]? = some w/\ZIr g w (V b)
def EsOk.mono{g g':aE}{E:Nat->Rat}{cols k j:Nat}{es:List IV}{V:Nat->Int}(e:EsOk g E cols k es V j)(l:g.le g'):EsOk g' E cols k es V j:=by
 refine ⟨e.len,fun a b f i=>?_,fun b f=>?_⟩
 ·obtain ⟨w,d,c⟩:=e.rows a b f i;exact ⟨w,d,Gn _ _ _ _ l c⟩
 ·obtain ⟨w,d,c⟩:=e.last b f;exact ⟨w,d,Gn _ _ _ _ l c⟩
def EsOk.push{g:aE}{E:Nat->Rat}{cols k j:Nat}{es:List IV}{V:Nat->Int}(e:EsOk g E cols k es V j){w:IV}(hw:ZIr g w (V j)):EsOk g E cols k (es++[w]) V (j+1):=by
 have m:=e.len
 refine ⟨by rw [aD,e.len];rfl,fun a b d i=>?_,fun b d=>?_⟩
 ·obtain ⟨u,c,f⟩:=e.rows a b d i
  have l:=L8 d i
  exact ⟨u,by rw [aM (by omega)];exact c,f⟩
 ·by_cases n:b=j
  ·subst n
   exact ⟨w,by rw [aR (by omega),m];simp,hw⟩
  ·obtain ⟨u,c,f⟩:=e.last b (by omega)
   exact ⟨u,by rw [aM (by omega)];exact c,f⟩
def EsOk.set{g:aE}{E:Nat->Rat}{cols k:Nat}{es:List IV}{V:Nat->Int}(e:EsOk g E cols k es V cols){b:Nat}(hb:b<cols){w:IV}{z:Int}(hw:ZIr g w z):EsOk g E cols k (es.set (k*cols+b) w) (fun x=>if x=b then z else V x) cols:=by
 have n:=e.len
 refine ⟨by simpa using n,fun a c d l=>?_,fun c d=>?_⟩
 ·obtain ⟨u,f,i⟩:=e.rows a c d l
  have m:=L8 d l
  exact ⟨u,by rw [bB (by omega)];exact f,i⟩
 ·by_cases j:c=b
  ·subst j
   exact ⟨w,by rw [bL (by omega)],by show ZIr g w (if c=c then z else V c);rw [iP rfl];exact hw⟩
  ·obtain ⟨u,f,i⟩:=e.last c d
   exact ⟨u,by rw [bB (by omega)];exact f,by show ZIr g u (if c=b then z else V c);rw [iN j];exact i⟩
def EsOk.congr{g:aE}{E:Nat->Rat}{cols k j:Nat}{es:List IV}{V V':Nat->Int}(e:EsOk g E cols k es V j)(h:∀ b,b<j->V b=V' b):EsOk g E cols k es V' j:=
 ⟨e.len,e.rows,fun b a=>by rw [<- h b a];exact e.last b a⟩
def EsOk.next{g:aE}{E:Nat->Rat}{cols k:Nat}{es:List IV}{V:Nat->Int}(e:EsOk g E cols k es V cols)(h:∀ b,b<cols->V b=A0k E cols k b)(V':Nat->Int):EsOk g E cols (k+1) es V' 0:=by
 refine ⟨by rw [e.len,aL,aQ];rfl,fun a b d c=>?_,fun b d=>by omega⟩
 by_cases f:a=k
 ·subst f;rw [<- h b c];exact e.last b c
 ·exact e.rows a b (by omega) c
section
variable {h g:aE} {K:VP} {A:Option aI} {n c rows cols m:Nat} {E:Nat->Rat}
def Gm(gl:Gl h)(r:bV RQr h A (rows*cols) E)(hcap:rows*cols<=c)(hr:1<=rows)(hr2:rows<=10000)(hc:1<=cols)(hc2:cols<=10000)(hs:∀ i,i<rows*cols->Sz m (E i))(hm:1+cols*m+m<=6400000000)
 (hK:∀ h' g' o' T,h.le g'->Tab h' g' o' T (A0k E cols) (Uf E cols)->T.rows=rows->T.cols=cols->K (.pointer (some ⟨T.bt,0,none⟩)) h'):aV prog Ah #[.slice A (rows*cols) c,I (cols:Int)] h K:=by
 refine A5a _ _ _ _ ?_
 unfold A5b
 have ch:rows*cols<=100000000:=by
  have:rows*cols<=10000*10000:=cH hr2 hc2
  omega
 refine Wg ?_
 intro bt br
 refine ⟨_,rfl,Hl (z:=.pointer none) (by kernel_rfl) ?_⟩
 intro X ak
 have a9:X≠bt:=by rintro rfl;rw [C2] at ak;cases ak
 refine ⟨_,rfl,?_⟩
 refine Ey (by kernel_rfl) (by kernel_rfl) rfl rfl (by decide) ?_
 have s0:=((Sep.refl h).new br (.cells (bG (.agg #[I (cols:Int),.slice none 0 0,.slice none 0 0])) Tz)).new ak (.cells ((bG (.pointer none)).setIfInBounds 0 (.pointer (some ⟨bt,0,none⟩))) Qd)
 have n0:NT ((V7.put bt (.cells (bG (.agg #[I (cols:Int),.slice none 0 0,.slice none 0 0])) Tz)).put X (.cells ((bG (.pointer none)).setIfInBounds 0 (.pointer (some ⟨bt,0,none⟩))) Qd)) X bt cols [] [] none 0 none 0:=
  ⟨⟨_,C2 _ _ _⟩,⟨_,by rw [C0 _ _ a9.symm,C2];rfl⟩,OwnSl.nil,OwnSl.nil,a9,⟨by simp,by simp⟩,⟨by simp,by simp⟩,fun b hb=>by cases hb⟩
 generalize (V7.put bt (.cells (bG (.agg #[I (cols:Int),.slice none 0 0,.slice none 0 0])) Tz)).put X (.cells ((bG (.pointer none)).setIfInBounds 0 (.pointer (some ⟨bt,0,none⟩))) Qd)=o0 at s0 n0
 refine s0.call (Zm hc ?_)
 intro v g0 l0 ic cb s3
 have bound:∀ k,k<rows->∀ j,j<cols->Sz m (E (k*cols+j)):=fun k hk j hj=>hs _ (L8 hk hj)
 refine ⟨_,rfl,Un ic hc (by omega) hcap (fun k J=>∃ (O o1:aE) (C:List IV) (u:List QV) (A1:Option aI) (c1:Nat) (A2:Option aI) (c2:Nat),g0.le O/\Sep J O o1/\NT o1 X bt cols C u A1 c1 A2 c2/\EsOk O E cols k C (fun _=>0) 0/\u.length=k/\Row RQr O u k (Uf E cols)) ?_ ?_ ?_ ?_⟩
 ·exact ⟨g0,o0,[],[],none,0,none,0,B5 _,s3,n0,⟨by simp,fun a b h1=>by omega,fun b h1=>by omega⟩,rfl,Row.nil⟩
 ·rintro k J ⟨O,o1,C,u,A1,c1,A2,c2,lg,s1,_⟩
  exact B0 lg s1.le
 ·rintro k ce a4 ⟨O,o1,C,u,A1,c1,A2,c2,ba,s4,R,e1,D,rs⟩
  have bk:=bound k a4
  have cj:(k+1)*cols<=rows*cols:=aF _ a4
  have ci:(k+1)*cols=k*cols+cols:=by rw [aL,aQ]
  have b6:k<=k*cols:=Nat.le_mul_of_pos_right k hc
  have ah:=B0 l0 ba
  have ap:bV RQr h A ((k+1)*cols) E:=by
   have:=r.cut (c:=c) (l:=0) (k:=(k+1)*cols) (by omega) hcap
   rw [J0] at this
   exact this.congr fun i _=>by rw [aN]
  have ag:bV RQr h (I5 A ((k+1)*cols) (k*cols) 4) cols (A3m E cols k):=ap.cut (c:=(k+1)*cols) (l:=k*cols) (k:=cols) (by omega) (aG _)
  refine ⟨_,_,_,rfl,s4.call (En (gl.mono ah) (ag.mono H1 ah) (by omega) bk hm ?_)⟩
  intro sd Ad nd cd g2 l2 id ca s5
  have cE:=R.c1 s5
  rw [e1.len,cF] at cE
  have d2:=Lu (f:=A3m E cols k) cols bk
  have aj:1+cols*m<=1+cols*m+m:=by omega
  refine ⟨_,_,_,_,rfl,_,R.cp s5,_,rfl,_,_,_,cE,fun L J=>∃ (j:Nat) (s:Bool) (B:Option aI) (bn bc:Nat) (W o3:aE) (C:List IV) (A1:Option aI) (c1:Nat),j<=cols/\L=[I (j:Int),.bool s,.slice B bn bc]/\g2.le W/\Sep J W o3/\NT o3 X bt cols C u A1 c1 A2 c2/\EsOk W E cols k C (B2k E cols k) j/\ZI W s B bn bc (B6p E cols k j:Int),
   fun L _=>cols-(iAt L 0).toNat,⟨0,false,none,0,0,g2,o1,C,A1,c1,by omega,rfl,B5 _,s5,R,(e1.mono l2).congr (fun b hb=>by omega),ZI.zero⟩,?_⟩
  rintro z bs bA bn bc b7 ⟨j,sB,B,ck,cf,W,o3,ab,A3,c3,hj,eL,l3,s6,n3,e3,i3⟩
  simp only [aX,bU,bM,aT,true_and,and_true] at eL
  obtain ⟨rfl,rfl,rfl,rfl,rfl⟩:=eL
  have bu:B7 ((j:Int)+1)=((j+1:Nat):Int):=by rw [C1]<;>omega
  have ac:=B0 ah (B0 l2 l3)
  refine B8 (fun bl=>?_) (fun bz=>?_)
  ·have F:j<cols:=by omega
   obtain ⟨a,w,ea,iw,q0,q1,q2,q3⟩:=ag.qat F
   have ad:=B0 ac s6.le
   refine ⟨a,ea,by omega,by omega,_,_,_,_,_,_,_,_,B9 ad q0,B9 ad q1,B9 ad q2,B9 ad q3,?_⟩
   refine s6.call (Lm (m:=1+cols*m+m) (H1 _ _ _ _ ac iw) (id.mono l3) ((bk j F).mono (by omega)) (d2.mono aj) hm ?_)
   intro s7 A7 n7 c7 g7 l7 i7 az bd
   refine ⟨_,_,_,_,rfl,bd.call (Dd (gl.mono (B0 ac l7)).tz (i3.mono l7) i7 (B3o bk j hj) (A0s bk F) hm ?_)⟩
   intro A8 n8 c8 g8 l8 i8 ai N
   have z7:ZIr g8 ⟨s7,A7,n7,c7⟩ (B2k E cols k j):=i7.mono l8
   have hF:∀ h' g' o' A2' G,g8.le g'->Sep h' g' o'->NT o' X bt cols (ab++[⟨s7,A7,n7,c7⟩]) u A2' G A2 c2->(∃ (j':Nat) (s:Bool) (B:Option aI) (bn bc:Nat) (W o3:aE) (C:List IV) (A1:Option aI) (c1:Nat),j'<=cols/\[I (B7 ((j:Int)+1)),.bool false,.slice A8 n8 c8]=[I (j':Int),.bool s,.slice B bn bc]/\g2.le W/\Sep h' W o3/\NT o3 X bt cols C u A1 c1 A2 c2/\EsOk W E cols k C (B2k E cols k) j'/\ZI W s B bn bc (B6p E cols k j':Int))/\cols-(iAt [I (B7 ((j:Int)+1)),.bool false,.slice A8 n8 c8] 0).toNat<cols-(iAt [I (j:Int),.bool bs,.slice bA bn bc] 0).toNat:=by
    intro h' g' o' A2' G H s' n'
    rw [bu]
    refine ⟨⟨j+1,false,A8,n8,c8,g',o',_,A2',G,by omega,rfl,B0 l3 (B0 l7 (B0 l8 H)),s',n',((e3.mono (B0 l7 l8)).push z7).mono H,i8.mono H⟩,by simp only [U7];omega⟩
   have M:ab.length<=100000000:=by have:=e3.len;omega
   refine ⟨_,_,_,_,rfl,_,n3.cp N,_,rfl,_,_,_,n3.c1 N,⟨_,n3.cp N,?_⟩,?_⟩
   ·exact n3.buildE N ⟨s7,A7,n7,c7⟩ M hF fun B m d J lp cp p=>⟨_,_,_,rfl,lp,p fun A2 c2 h2 _ q=>⟨_,_,_,rfl,_,rfl,q⟩⟩
   ·exact n3.buildE N ⟨s7,A7,n7,c7⟩ M hF fun B m d J lp cp p=>⟨_,_,_,rfl,lp,⟨_,cp,p fun A2 c2 h2 _ q=>⟨_,_,_,rfl,_,rfl,q⟩⟩,p fun A2 c2 h2 am q=>⟨_,_,_,rfl,_,am,_,rfl,q⟩⟩
  ·have F:j=cols:=by omega
   subst F
   have hg:((B6p E j k j:Nat):Int)=0↔B6p E j k j=0:=by omega
   refine ⟨fun L J=>∃ (s:Bool) (B:Option aI) (bn bc:Nat) (g4:aE),L=[.bool s,.slice B bn bc]/\W.le g4/\Sep J g4 o3/\ZI g4 s B bn bc (Zk E j k:Int),?_,?_⟩
   ·refine s6.call (F5 i3 ?_)
    intro az s7
    refine ⟨_,rfl,B8 (fun e=>?_) (fun e=>?_)⟩
    ·refine s7.call (Db (by omega) (by omega) ?_)
     intro S A8 n8 c8 g8 l8 i8 ai N
     refine ⟨_,_,_,_,rfl,_,_,_,_,g8,rfl,l8,N,?_⟩
     have:Zk E j k=1:=by unfold Zk;rw [iP (hg.1 e)]
     rw [this];exact i8
    ·refine ⟨_,_,_,_,W,rfl,B5 _,s7,?_⟩
     have:Zk E j k=B6p E j k j:=by unfold Zk;rw [iN (fun x=>e (hg.2 x))]
     rw [this];exact i3
   ·rintro cs cA cn cc az ⟨bf,bw,bm,bh,g4,eL,l4,s7,ic⟩
    obtain ⟨rfl,rfl,rfl,rfl⟩:cs=bf/\cA=bw/\cn=bm/\cc=bh:=by simpa using eL
    have e4:=e3.mono l4
    have au:=n3.c1 s7
    rw [e4.len] at au
    have ar:ab≠[]:=by rintro rfl;have:=e4.len;simp at this;omega
    obtain ⟨Q,ao,rB⟩:=n3.oe.rowB ar
    subst ao
    have b9:k*j+j<=c3:=by have:=n3.oe.1;rw [e4.len] at this;exact this
    have aw:(((k*j:Nat):Int)).toNat=k*j:=rfl
    have a7:I5 (some ⟨Q,0,none⟩) c3 ((((k*j:Nat):Int)).toNat) 2=some ⟨Q,k*j*2,none⟩:=by rw [aw,Wc (by omega),E6,aN]
    have a8:k*j+j-(((k*j:Nat):Int)).toNat=j:=by rw [aw];omega
    refine ⟨_,n3.cp s7,_,rfl,_,_,_,au,⟨by omega,by omega⟩,?_⟩
    rw [a7,a8]
    refine ⟨fun L J=>∃ (n:Nat) (g o:aE) (C:List IV),n<=j/\L=[I (n:Int)]/\g4.le g/\Sep J g o/\NT o X bt j C u (some ⟨Q,0,none⟩) c3 A2 c2/\EsOk g E j k C (fun b=>if b<n then A0k E j k b else B2k E j k b) j,fun L _=>j-(iAt L 0).toNat,⟨0,g4,o3,ab,by omega,rfl,B5 _,s7,n3,e4.congr fun b hb=>by rw [iN (by omega)]⟩,?_⟩
    rintro z ai ⟨n,g5,o5,V,cg,eL,l5,S,t,e5⟩
    obtain rfl:=sI1 eL
    have av:B7 ((n:Int)+1)=((n+1:Nat):Int):=by rw [C1]<;>omega
    have bi:B7 (((k*j:Nat):Int)+(n:Int))=((k*j+n:Nat):Int):=by rw [C1]<;>omega
    have a6:=t.c1 S
    rw [e5.len] at a6
    have b0:=Tv E j k
    refine B8 (fun bl=>?_) (fun bz=>?_)
    ·have F:n<j:=by omega
     obtain ⟨w,ew,iw⟩:=e5.last n F
     rw [iN (aU n)] at iw
     obtain ⟨b8,af,bg⟩:=t.oe.rowB (by rintro rfl;have:=e5.len;simp at this;omega)
     simp only [aJ,aP,and_true] at af
     subst af
     have aa:k*j+n<V.length:=by have:=e5.len;omega
     have bo:V[k*j+n]=w:=by
      rw [aH aa] at ew
      cases ew;rfl
     have ha:k*j*2+n*2=(k*j+n)*2:=by rw [aL]
     have cell:∀ x v,(enc w)[x]? = some v->ai.cell? (aC (aC ⟨Q,k*j*2,none⟩ (((n:Int)).toNat*2)) x)=some v:=by
      intro x v hx
      refine S.cell ?_
      rw [E6,E6]
      show o5.cell? ⟨Q,k*j*2+n*2+x,none⟩=_
      rw [ha]
      exact bg.cell aa (by rw [bo];exact hx)
     refine ⟨_,rfl,by omega,by omega,_,_,_,_,cell 0 _ rfl,cell 1 _ rfl,_,t.cp S,_,rfl,_,_,_,a6,?_⟩
     refine S.call (R7 iw (ic.mono l5) (A0s bk F) (A28 bk) hm (by omega) ?_)
     intro Z A9 n9 c9 g9 l9 i9 aq ay
     refine ⟨_,_,_,_,rfl,S.le_le ay l9,_,rfl,by omega,by omega,?_⟩
     rw [bi]
     refine OwnSl.store Ug (y:=(⟨Z,A9,n9,c9⟩:IV)) rfl ay t.oe aa rfl ?_
     intro b4 b3 bq a5 ko
     obtain ⟨x1,bj⟩:=t.hp
     obtain ⟨x2,al⟩:=t.ht
     have b1:X≠Q:=fun e=>t.a1.1 (by rw [e])
     have b2:bt≠Q:=fun e=>t.a1.2 (by rw [e])
     rw [av]
     refine ⟨⟨n+1,g9,b3,V.set (k*j+n) ⟨Z,A9,n9,c9⟩,by omega,rfl,B0 l5 l9,bq,⟨⟨x1,by rw [ko _ b1];exact bj⟩,⟨x2,by rw [ko _ b2,List.length_set];exact al⟩,a5,t.os.keep fun b x hb hx=>by rw [ko b (fun e=>t.a3 Q rfl (by rw [<- e];exact hb))];exact hx,t.ne,t.a1,t.a2,t.a3⟩,((e5.mono l9).set F (show ZIr g9 ⟨Z,A9,n9,c9⟩ (A0k E j k n) from i9)).congr fun b hb=>?_⟩,by simp only [U7];omega⟩
     show (if b=n then A0k E j k n else if b<n then A0k E j k b else B2k E j k b)=if b<n+1 then A0k E j k b else B2k E j k b
     by_cases eb:b=n
     ·subst eb;rw [iP rfl,iP (by omega)]
     ·rw [iN eb]
      by_cases h7:b<n
      ·rw [iP h7,iP (by omega)]
      ·rw [iN h7,iN (by omega)]
    ·have bx:n=j:=by omega
     subst bx
     have eN:EsOk g5 E n (k+1) V (fun _=>0) 0:=e5.next (fun b hb=>by rw [iP hb]) _
     have sS:=A0j (E:=E) (cols:=n) (i:=k) bk
     have fr:∀ (gg:aE) (w:QV),g5.le gg->RQ gg w (bN (Cb (A3m E n k) n:Int) (Zk E n k:Int))->∀ h' g' o' A2' G,gg.le g'->Sep h' g' o'->NT o' X bt n V (u++[w]) (some ⟨Q,0,none⟩) c3 A2' G->∃ (O o1:aE) (C:List IV) (u:List QV) (A1:Option aI) (c1:Nat) (A2:Option aI) (c2:Nat),g0.le O/\Sep h' O o1/\NT o1 X bt n C u A1 c1 A2 c2/\EsOk O E n (k+1) C (fun _=>0) 0/\u.length=k+1/\Row RQr O u (k+1) (Uf E n):=by
      intro gg w bb iw h' g' o' A2' G H s' n'
      have ae:O.le g':=B0 l2 (B0 l3 (B0 l4 (B0 l5 (B0 bb H))))
      refine ⟨g',o',V,u++[w],_,c3,A2',G,B0 ba ae,s',n',eN.mono (B0 bb H),by simp [D],?_⟩
      have bv:Row RQr g' u u.length (Uf E n):=by rw [D];exact rs.mono H1 ae
      have:=bv.push (w:=w) (by rw [D];exact H1 _ _ _ _ H iw)
      rw [aD,D] at this
      exact this
     have ax:=(gl.mono (B0 ac (B0 l4 l5))).tz
     have a0:=(id.mono (B0 l3 (B0 l4 l5)))
     have an:u.length<=100000000:=by omega
     refine ⟨_,t.cp S,_,rfl,_,_,_,t.c2 S,⟨_,t.cp S,?_⟩,?_⟩
     ·refine S.call (T4 ax a0 (ic.mono l5) (d2.mono aj) (A28 bk) hm ?_)
      intro w gf lf iw aq Z
      refine ⟨_,_,_,_,_,_,_,_,rfl,S.le_le Z lf,?_⟩
      exact t.buildS Z w an (fr gf w lf iw) fun B m d J lp cp p=>⟨_,_,_,rfl,lp,p fun A2 c2 h2 _ q=>⟨_,_,_,rfl,_,rfl,q⟩⟩
     ·refine S.call (T4 ax a0 (ic.mono l5) (d2.mono aj) (A28 bk) hm ?_)
      intro w gf lf iw aq Z
      refine ⟨_,_,_,_,_,_,_,_,rfl,S.le_le Z lf,⟨_,t.cp Z,?_⟩,?_⟩
      ·exact t.buildS Z w an (fr gf w lf iw) fun B m d J lp cp p=>⟨_,_,_,rfl,lp,p fun A2 c2 h2 _ q=>⟨_,_,_,rfl,_,rfl,q⟩⟩
      ·exact t.buildS Z w an (fr gf w lf iw) fun B m d J lp cp p=>⟨_,_,_,rfl,lp,⟨_,cp,p fun A2 c2 h2 _ q=>⟨_,_,_,rfl,_,rfl,q⟩⟩,p fun A2 c2 h2 am q=>⟨_,_,_,rfl,_,am,_,rfl,q⟩⟩
 ·rintro J ⟨O,o1,C,u,A1,c1,A2,c2,lg,s1,R,e1,D,rs⟩
  refine ⟨_,R.cp s1,?_⟩
  have M:C.length=rows*cols:=by rw [e1.len];rfl
  have b5:0<rows*cols:=Nat.mul_pos (by omega) (by omega)
  obtain ⟨Q,ao,rE⟩:=R.oe.rowB (by rintro rfl;simp at M;omega)
  obtain ⟨bS,be,rS⟩:=R.os.rowB (by rintro rfl;simp at D;omega)
  subst ao be
  obtain ⟨x2,al⟩:=R.ht
  refine hK J O o1 ⟨bt,Q,bS,rows,cols,c1,c2⟩ (B0 l0 lg) ⟨s1,fun (e:bt=Q)=>R.a1.2 (by rw [<- e]),fun (e:bt=bS)=>R.a2.2 (by rw [<- e]),fun (e:Q=bS)=>R.a3 Q rfl (by rw [e]),⟨x2,by rw [al,M,D]⟩,⟨C,rE,M,fun i j hi hj=>e1.rows i j hi hj⟩,⟨u,rS,D,rs⟩,by rw [<- M];exact R.oe.1,by rw [<- D];exact R.os.1,⟨hr2,hc2⟩,hc⟩ rfl rfl
end
structure MOk (r c:Int) (n:Nat) (ls:Nat->List UInt8) (rows cols:Nat):Prop where
 er:r=rows
 ec:c=cols
 r1:1<=rows
 r2:rows<=64
 c1:1<=cols
 c2:cols<=64
 len:n=rows*cols
 num:∀ i,i<n->cW (ls i)
def A7j(r c:Int)(n:Nat):Prop:=1<=r/\r<=64/\1<=c/\c<=64/\(n:Int)=r*c
def MOk.of{r c:Int}{n:Nat}{ls:Nat->List UInt8}(s:A7j r c n)(h:∀ i,i<n->cW (ls i)):MOk r c n ls r.toNat c.toNat:=by
 obtain ⟨d,g,f,e,j⟩:=s
 refine ⟨by omega,by omega,by omega,by omega,by omega,by omega,?_,h⟩
 have a:(r.toNat:Int)=r:=by omega
 have b:(c.toNat:Int)=c:=by omega
 have:((r.toNat*c.toNat:Nat):Int)=r*c:=by rw [bF,a,b]
 omega
def MOk.shape{r c:Int}{n:Nat}{ls:Nat->List UInt8}{rows cols:Nat}(m:MOk r c n ls rows cols):A7j r c n:=by
 obtain ⟨rfl,rfl,b,f,d,e,a,_⟩:=m
 exact ⟨by omega,by omega,by omega,by omega,by rw [a,bF]⟩
abbrev Dr(r c:Int)(A:Option aI)(n cap:Nat):bD:=.agg #[I r,I c,.slice A n cap]
def Mx(r c:Int)(n:Nat)(ls:Nat->List UInt8):Prop:=∃ rows cols,MOk r c n ls rows cols
def A9f{r c:Int}{n:Nat}{ls:Nat->List UInt8}:Mx r c n ls↔A7j r c n/\∀ i,i<n->cW (ls i):=by
 constructor
 ·rintro ⟨b,a,m⟩;exact ⟨m.shape,m.num⟩
 ·rintro ⟨s,h⟩;exact ⟨_,_,MOk.of s h⟩
section
variable {h:aE} {K:VP} {A:Option aI} {n cap m:Nat} {r c:Int} {ls:Nat->List UInt8}
def A18(hn:n<=1000000000)(hK1:A7j r c n->K (.bool true) h)(hK0:¬ A7j r c n->K (.bool false) h):aV prog Mm #[Dr r c A n cap] h K:=by
 refine A5c _ _ _ _ _ ?_
 unfold A5d
 refine B8 (fun f=>B8 (fun b=>B8 (fun i=>B8 (fun a=>?_) (fun e=>hK0 fun s=>e s.2.2.2.1)) (fun e=>hK0 fun s=>e s.2.2.1)) (fun e=>hK0 fun s=>e s.2.1)) (fun e=>hK0 fun s=>e s.1)
 have j:r*c<=64*64:=cU b a (by omega) (by omega)
 have d:0<=r*c:=cT (by omega) (by omega)
 have g:B7 (r*c)=r*c:=C1 (by omega) (by omega)
 rw [g]
 by_cases e:(n:Int)=r*c
 ·rw [show ((n:Int)==r*c)=true by simpa using e]
  exact hK1 ⟨f,b,i,a,e⟩
 ·rw [show ((n:Int)==r*c)=false by simpa using e]
  exact hK0 fun s=>e s.2.2.2.2
def T1(gl:Gl h)(rv':bV SSr h A n ls)(hn:n<=1000000)(hl:LL n ls)
 (hK1:∀ rows cols,MOk r c n ls rows cols->∀ b h',Own RQr h h' b n (fun i=>rv (ls i))->K (.tuple #[.slice (some ⟨b,0,none⟩) n n,.bool true]) h')
 (hK0:¬ Mx r c n ls->∀ h',h.le h'->K (.tuple #[.slice none 0 0,.bool false]) h'):aV prog Hc #[Dr r c A n cap] h K:=by
 refine B91 _ _ _ _ _ ?_
 unfold C54
 refine A18 (by omega) (fun s=>⟨_,rfl,?_⟩) (fun s=>⟨_,rfl,hK0 (fun x=>s (A9f.1 x).1) h (B5 _)⟩)
 refine V6 gl rv' hn hl (fun a b h' w=>⟨_,_,_,_,rfl,hK1 _ _ (MOk.of s a) b h' w⟩) (fun d h' l=>⟨_,_,_,_,rfl,hK0 (fun x=>d (A9f.1 x).2) h' l⟩)
def Lp{f:Nat->Rat}(gl:Gl h)(rq:bV RQr h A n f)(hn:n<=1000000)(hs:∀ i,i<n->Sz m (f i))(hm:m<=40000000)
 (hK:∀ b h',Own SSr h h' b n (fun i=>K4 (f i))->K (Dr r c (some ⟨b,0,none⟩) n n) h'):aV prog Oz #[I r,I c,.slice A n cap] h K:=by
 refine B5w _ _ _ _ _ ?_
 unfold C0q
 exact Ij gl rq hn hs hm fun b h' w=>⟨_,_,_,rfl,hK b h' w⟩
end
end Go.Proofs.YtmbfcbbkbefgfaaGreatDoor
namespace Go.Proofs.YtmbfcbbkbefgfaaGreatDoor
set_option maxRecDepth 20000
def ZrE(n c:Nat)(s:ES):Prop:=∀ i j,i<n->s.cs.length<=i->j<c->s.R i j=0
def B01(n c:Nat)(s:ES)(h:s.cs.length<=n):s.cs.length<=Gi n c s/\Gi n c s<=n/\(Gi n c s<n->s.R (Gi n c s) c≠0)/\(∀ i,s.cs.length<=i->i<Gi n c s->s.R i c=0):=by
 have b:=A4b (fun i=>decide (s.R i c≠0)) (n-s.cs.length) s.cs.length
 have a:=A1b (fun i=>decide (s.R i c≠0)) (n-s.cs.length) s.cs.length
 have d:=A1c (fun i=>decide (s.R i c≠0)) (n-s.cs.length) s.cs.length
 have g:fnd (fun i=>decide (s.R i c≠0)) (n-s.cs.length) s.cs.length=Gi n c s:=rfl
 rw [g] at b a d
 refine ⟨b.1,by omega,fun j=>?_,fun i e f=>?_⟩
 ·have:=d (by omega);simpa using this
 ·have:=a i e f;simpa using this
structure EqA (n w c:Nat) (A:Nat->Nat->Rat) (s:ES):Prop where
 len:s.cs.length<=n
 zero:ZrE n c s
 lt:∀ x∈s.cs,x<c
 elim:∃ B,Elim n w B s.R (fun m=>s.cs.getD m 0) s.cs.length/\(∀ i,i<n->∃ i',i'<n/\∀ j,B i' j=A i j)/\(∀ i,i<n->∃ i',i'<n/\∀ j,B i j=A i' j)
 comb:∃ T:Nat->Nat->Rat,∀ i j,i<n->j<w->s.R i j=sm n fun l=>T i l*A l j
def A5u{k l i:Nat}:xch k l (xch k l i)=i:=by unfold xch;repeat' split
                                             all_goals omega
def mtx(E:Nat->Rat)(cols:Nat):Nat->Nat->Rat:=fun i j=>E (i*cols+j)
def elE(E:Nat->Rat)(rows cols c:Nat):ES:=B1o rows ⟨mtx E cols,[],1⟩ c
def elP(E:Nat->Rat)(rows cols c:Nat):PS:=Dh rows ⟨A0k E cols,Uf E cols,[],1,1⟩ c
def A8y(E:Nat->Rat){rows cols c:Nat}(hc:c<=cols):ERel rows cols c (mtx E cols) (elE E rows cols c) (elP E rows cols c):=
 (ERel.start (fun i j _ a=>B28 E cols i a) (fun i _=>by have:=Np E cols i;grind)).run c hc
def C49(E:Nat->Rat){rows cols c:Nat}(hc:c<=cols):(elP E rows cols c).cs=(elE E rows cols c).cs:=(A8y E hc).cs.symm
def C06(E:Nat->Rat){rows cols c:Nat}(hc:c<=cols){i j:Nat}(hi:i<rows)(hj:j<cols)(h:i<(elE E rows cols c).cs.length\/j<c):bN ((elP E rows cols c).M i j) (elP E rows cols c).last=(elE E rows cols c).R i j:=by
 have r:=A8y E hc (rows:=rows)
 have b:=r.val i j hi hj
 have d:=J7 r.last
 rw [bX,b]
 by_cases a:i<(elE E rows cols c).cs.length
 ·rw [iP a,cD,bW,Rat.mul_assoc,Rat.mul_inv_cancel _ d,Rat.mul_one]
 ·rw [iN a,r.zero i j hi (by omega) (by omega),bH,bH]
  rw [bW,dB]
def bnd(cols m:Nat):Nat:=1+cols*m+m
def C48{E:Nat->Rat}{rows cols m:Nat}(h:∀ i,i<rows*cols->Sz m (E i)):ZbP rows cols (bnd cols m) (bnd cols m) ⟨A0k E cols,Uf E cols,[],1,1⟩:=by
 have e:∀ i,i<rows->∀ j,j<cols->Sz m (E (i*cols+j)):=fun i g j f=>h _ (L8 g f)
 refine ⟨fun a b c d=>?_,?_,fun a c=>A0j (e a c),bY _⟩
 ·show ZB (3^0*bnd cols m) (A0k E cols a b)
  rw [dC,aQ];exact B27 (e a c) d
 ·show ZB (3^0*bnd cols m) 1
  exact ZB.one (by unfold bnd;omega)
def B45{E:Nat->Rat}{rows cols m c:Nat}(h:∀ i,i<rows*cols->Sz m (E i))(hc:c<=cols):ZbP rows cols (bnd cols m) (bnd cols m) (elP E rows cols c):=(C48 h).run (by unfold bnd;omega) c hc
def C05(E:Nat->Rat)(rows cols c:Nat):(elP E rows cols c).cs.length<=c:=A84 _ _ rfl c
def A8z(E:Nat->Rat)(rows cols c:Nat)(x:Nat):3^(elP E rows cols c).cs.length*x<=3^c*x:=aF _ (cG (by decide) (C05 E rows cols c))
def B47(E:Nat->Rat)(rows cols c:Nat):(elP E rows cols c).last≠0:=(A3l rows _ (show (1:Int)≠0 by decide) (.inl rfl) (bY _) c).1
structure Own2 (h h':aE) (b n:Nat) (f:Nat->List UInt8) (A:Option aI) (cap:Nat) (l:List Int):Prop where
 ex:∃ g o xs,h.le g/\Sep h' g o/\RowX o b xs/\xs.length=n/\Row SSr g xs n f/\OwnSl o F9 A cap l/\A≠some ⟨b,0,none⟩
section
variable {h g o:aE} {T:Tb} {M:Nat->Nat->Int} {S:Nat->Rat}
end
section
variable {h:aE} {K:VP} {A:Option aI} {n cap m:Nat} {r c:Int} {ls:Nat->List UInt8}
abbrev rvs(ls:Nat->List UInt8):Nat->Rat:=fun i=>rv (ls i)
def A3e{E:Nat->Rat}{rows cols cc nq:Nat}(gl:Gl h)(rq:bV RQr h A (rows*cols) E)(hcap:rows*cols<=cap)(hr:1<=rows)(hr2:rows<=10000)(hc:1<=cols)(hc2:cols<=10000)(hcc:cc<=cols)(hs:∀ i,i<rows*cols->Sz m (E i))(hnq:∀ k,k<=cc->(elP E rows cols k).cs.length<=nq)(hm:2*(3^nq*bnd cols m)+1<=100000000){K:VP}
 (hK:∀ T h1,aV prog Jf #[.pointer (some ⟨T.bt,0,none⟩),I (cc:Int)] h1 (fun r h'=>∃ g' o' A' cap' w,h.le g'/\Tab h' g' o' T (elP E rows cols cc).M (elP E rows cols cc).S/\OwnSl o' F9 A' cap' (zs (elP E rows cols cc).cs)/\B9d T A'/\ZIr g' w (elP E rows cols cc).last/\
  r= .tuple #[.slice A' (elP E rows cols cc).cs.length cap',w.v,I (elP E rows cols cc).sgn])->h.le h1->T.rows=rows->T.cols=cols->K (.pointer (some ⟨T.bt,0,none⟩)) h1):aV prog Ah #[.slice A (rows*cols) cap,I (cols:Int)] h K:=by
 have h1:bnd cols m<=3^nq*bnd cols m:=Nat.le_mul_of_pos_left _ (Nat.pow_pos (by decide))
 have s:bnd cols m=1+cols*m+m:=rfl
 refine Gm (m:=m) gl rq hcap hr hr2 hc hc2 hs (by omega) ?_
 intro h' g' o' T g t a d
 refine hK T h' ?_ (B0 g t.sep.le) a d
 have c:=C48 hs
 rw [<- a,<- d] at c
 refine A3q (m:=bnd cols m) (l:=bnd cols m) t (by omega) (by unfold bnd;omega) (by rw [a];exact hnq) hm (by rw [a] at c ⊢;rw [d] at c ⊢;exact c) ?_
 intro s o p A2 b w q j e n ko f
 rw [a] at j e f ⊢
 exact ⟨o,p,A2,b,w,B0 g q,j,e,n,f,rfl⟩
def A64{E:Nat->Rat}{rows cols cc:Nat}(gl:Gl h)(rq:bV RQr h A (rows*cols) E)(hcap:rows*cols<=cap)(hr:1<=rows)(hr2:rows<=10000)(hc:1<=cols)(hc2:cols<=10000)(hcc:cc<=cols)(hs:∀ i,i<rows*cols->Sz m (E i))(hm:2*(3^cc*bnd cols m)+1<=100000000){K:VP}
 (hK:∀ T h1,aV prog Jf #[.pointer (some ⟨T.bt,0,none⟩),I (cc:Int)] h1 (fun r h'=>∃ g' o' A' cap' w,h.le g'/\Tab h' g' o' T (elP E rows cols cc).M (elP E rows cols cc).S/\OwnSl o' F9 A' cap' (zs (elP E rows cols cc).cs)/\B9d T A'/\ZIr g' w (elP E rows cols cc).last/\
  r= .tuple #[.slice A' (elP E rows cols cc).cs.length cap',w.v,I (elP E rows cols cc).sgn])->h.le h1->T.rows=rows->T.cols=cols->K (.pointer (some ⟨T.bt,0,none⟩)) h1):aV prog Ah #[.slice A (rows*cols) cap,I (cols:Int)] h K:=A3e gl rq hcap hr hr2 hc hc2 hcc hs (fun k a=>Nat.le_trans (C05 E rows cols k) a) hm hK
end
def Uu(o:aE)(A:Option aI):aE:=fun k=>if A=some ⟨k,0,none⟩ then o k else none
def B2y(o:aE)(A:Option aI):(Uu o A).le o:=fun k x e=>by
 unfold Uu at e
 split at e
 ·exact e
 ·cases e
def OwnSl.only{α:Type}[E:Enc α]{o:aE}{e:aZ}{A:Option aI}{c:Nat}{xs:List α}(w:OwnSl o e A c xs):OwnSl (Uu o A) e A c xs:=w.keep fun b x d a=>by unfold Uu;rw [iP d];exact a
def A6l(o:aE){A:Option aI}{k:Nat}(h:A≠some ⟨k,0,none⟩):Uu o A k=none:=by unfold Uu;rw [iN h]
section
variable {h:aE} {K:VP} {A:Option aI} {n cap m:Nat} {r c:Int} {ls:Nat->List UInt8}
end
def B1z:K4 0=[48]:=by simp [K4,Nl,P0]
section
variable {h:aE} {K:VP} {A:Option aI} {n cap m:Nat} {r c:Int} {ls:Nat->List UInt8}
end
structure HV where
 A:Option aI
 n:Nat
 c:Nat
abbrev HV.v(s:HV):bD:=.slice s.A s.n s.c
instance:Enc HV:=⟨⟨fun s=>[.slice s.A s.n s.c],1,fun _=>rfl,fun s v hv=>by rw [List.mem_singleton.1 hv];rfl⟩⟩
def RowsV(h:aE)(A:Option aI)(n w:Nat)(M:Nat->Nat->Rat):Prop:=∃ hd:List HV,SlF h A hd/\hd.length=n/\∀ i,i<n->∃ s,hd[i]? = some s/\s.n=w/\w<=s.c/\bV NQr h s.A w (M i)
def RowsV.mono{h h':aE}{A:Option aI}{n w:Nat}{M:Nat->Nat->Rat}(l:h.le h')(r:RowsV h A n w M):RowsV h' A n w M:=by
 obtain ⟨a,s,e,r⟩:=r
 refine ⟨a,s.mono l,e,fun i f=>?_⟩
 obtain ⟨s,c,d,b,r⟩:=r i f
 exact ⟨s,c,d,b,r.mono R6 l⟩
def RowsV.congr{h:aE}{A:Option aI}{n w:Nat}{M M':Nat->Nat->Rat}(r:RowsV h A n w M)(e:∀ i j,i<n->j<w->M i j=M' i j):RowsV h A n w M':=by
 obtain ⟨c,s,a,r⟩:=r
 refine ⟨c,s,a,fun i b=>?_⟩
 obtain ⟨s,a,f,d,r⟩:=r i b
 exact ⟨s,a,f,d,r.congr fun j g=>e i j b g⟩
def RowsV.at{h:aE}{A:Option aI}{n w:Nat}{M:Nat->Nat->Rat}(r:RowsV h A n w M){i:Nat}(hi:i<n):∃ (a:aI) (s:HV),A=some a/\s.n=w/\w<=s.c/\h.cell? (aC a (i*1))=some (.slice s.A s.n s.c)/\bV NQr h s.A w (M i):=by
 obtain ⟨d,s,e,r⟩:=r
 obtain ⟨u,b,g,f,r⟩:=r i hi
 obtain ⟨a,k,l⟩:=SlF.at (by decide) s (i:=i) (by omega)
 have j:d[i]=u:=by
  rw [aH (by omega)] at b;exact cO b
 have:=l 0 _ (by rw [j];rfl)
 rw [Wn] at this
 exact ⟨a,u,k,g,f,this,r⟩
structure Mt (h g o:aE) (bo:Nat) (rb:Nat->Nat) (n w:Nat) (M:Nat->Nat->Rat):Prop where
 sep:Sep h g o
 hd:∃ hd:List HV,RowB o bo hd/\hd.length=n/\∀ i,i<n->∃ c,hd[i]? = some ⟨some ⟨rb i,0,none⟩,w,c⟩/\w<=c
 nb:∀ i,i<n->rb i≠bo
 inj:∀ i j,i<n->j<n->rb i=rb j->i=j
 row:∀ i,i<n->∃ xs:List QV,RowB o (rb i) xs/\xs.length=w/\Row NQr g xs w (M i)
section
variable {h g o:aE} {bo n w:Nat} {rb:Nat->Nat} {M:Nat->Nat->Rat}
def Mt.next(t:Mt h g o bo rb n w M){h' g':aE}(s:Sep h' g' o)(l:g.le g'):Mt h' g' o bo rb n w M:=by
 refine ⟨s,t.hd,t.nb,t.inj,fun i b=>?_⟩
 obtain ⟨a,r,e,q⟩:=t.row i b
 exact ⟨a,r,e,q.mono R6 l⟩
def Mt.congr(t:Mt h g o bo rb n w M){M':Nat->Nat->Rat}(e:∀ i j,i<n->j<w->M i j=M' i j):Mt h g o bo rb n w M':=by
 refine ⟨t.sep,t.hd,t.nb,t.inj,fun i a=>?_⟩
 obtain ⟨b,r,c,q⟩:=t.row i a
 exact ⟨b,r,c,q.congr fun j d=>e i j a d⟩
def Mt.keep(t:Mt h g o bo rb n w M){h' g' o':aE}(s:Sep h' g' o')(l:g.le g')(hk:∀ k x,o k=some x->(k=bo\/∃ i,i<n/\k=rb i)->o' k=some x):Mt h' g' o' bo rb n w M:=by
 refine ⟨s,?_,t.nb,t.inj,fun i d=>?_⟩
 ·obtain ⟨f,⟨e,ex,b⟩,a,c⟩:=t.hd
  exact ⟨f,⟨e,ex,hk _ _ b (.inl rfl)⟩,a,c⟩
 ·obtain ⟨j,⟨e,ex,b⟩,a,c⟩:=t.row i d
  exact ⟨j,⟨e,ex,hk _ _ b (.inr ⟨i,d,rfl⟩)⟩,a,c.mono R6 l⟩
def Mt.own(t:Mt h g o bo rb n w M):(∃ x,o bo=some x)/\∀ i,i<n->∃ x,o (rb i)=some x:=by
 obtain ⟨d,⟨e,ex,a⟩,_⟩:=t.hd
 refine ⟨⟨_,a⟩,fun i b=>?_⟩
 obtain ⟨c,⟨e,ex,a⟩,_⟩:=t.row i b
 exact ⟨_,a⟩
def Mt.rowsV(t:Mt h g o bo rb n w M):RowsV h (some ⟨bo,0,none⟩) n w M:=by
 obtain ⟨b,r,e,q⟩:=t.hd
 refine ⟨b,r.slF t.sep.ole,e,fun i a=>?_⟩
 obtain ⟨c,d,k⟩:=q i a
 obtain ⟨m,j,f,l⟩:=t.row i a
 exact ⟨_,d,rfl,k,m,j.slF t.sep.ole,f,l.mono R6 t.sep.le⟩
def Mt.head(t:Mt h g o bo rb n w M){i:Nat}(hi:i<n):∃ c,w<=c/\o.cell? (aC ⟨bo,0,none⟩ (i*1))=some (.slice (some ⟨rb i,0,none⟩) w c):=by
 obtain ⟨d,r,e,q⟩:=t.hd
 obtain ⟨c,a,b⟩:=q i hi
 refine ⟨c,b,?_⟩
 have f:d[i]=⟨some ⟨rb i,0,none⟩,w,c⟩:=by
  rw [aH (by omega)] at a;exact cO a
 rw [E6,aN]
 exact r.cell (i:=i) (by omega) (j:=0) (by rw [f];rfl)
def Mt.elem(t:Mt h g o bo rb n w M){i j:Nat}(hi:i<n)(hj:j<w):∃ x:QV,NQ g x (M i j)/\o.cell? (aC (aC ⟨rb i,0,none⟩ (j*4)) 0)=some (.bool x.s)/\o.cell? (aC (aC ⟨rb i,0,none⟩ (j*4)) 1)=some (.slice x.A x.n x.c)/\o.cell? (aC (aC ⟨rb i,0,none⟩ (j*4)) 2)=some (.bool x.s2)/\o.cell? (aC (aC ⟨rb i,0,none⟩ (j*4)) 3)=some (.slice x.A2 x.n2 x.c2):=by
 obtain ⟨l,r,e,q⟩:=t.row i hi
 obtain ⟨x,a,f⟩:=q j hj
 have b:l[j]=x:=by
  rw [aH (by omega)] at a;exact cO a
 have cell:∀ k v,(enc x)[k]? = some v->o.cell? (aC (aC ⟨rb i,0,none⟩ (j*4)) k)=some v:=by
  intro k v d
  rw [E6,E6,aN]
  exact r.cell (i:=j) (by omega) (j:=k) (by rw [b];exact d)
 exact ⟨x,f,cell 0 _ rfl,cell 1 _ rfl,cell 2 _ rfl,cell 3 _ rfl⟩
def A2v(M:Nat->Nat->Rat)(i j:Nat)(q:Rat):Nat->Nat->Rat:=fun a b=>if a=i/\b=j then q else M a b
def Mt.store(t:Mt h g o bo rb n w M){i j:Nat}(hi:i<n)(hj:j<w){x:QV}{q:Rat}(hx:NQ g x q){K:Unit->aE->Prop}
 (k:∀ h' o',Mt h' g o' bo rb n w (A2v M i j q)->(∀ k,k≠rb i->o' k=o k)->K () h'):wpH prog (aO E9 (.pointer (some (aC ⟨rb i,0,none⟩ (j*4)))) x.v) K h:=by
 obtain ⟨L,r,e,D⟩:=t.row i hi
 rw [E6,aN]
 refine Sep.store (E:=inferInstanceAs (Enc QV)) Uh (v:=x.v) (y:=x) rfl t.sep r (i:=j) (by omega) rfl ?_
 intro h' o' J f z C
 refine k h' o' ⟨z,?_,t.nb,t.inj,fun a l=>?_⟩ (fun k s=>by rw [f,C0 _ _ s])
 ·obtain ⟨m,A,p,F⟩:=t.hd
  exact ⟨m,by rw [f];exact A.other (t.nb i hi).symm _,p,F⟩
 ·by_cases d:a=i
  ·subst d
   refine ⟨_,C,by simpa using e,?_⟩
   refine (Row.upd D (k:=j) (by omega) hx).congr fun b _=>?_
   unfold A2v
   by_cases c:b=j
   ·rw [iP c,iP ⟨rfl,c⟩]
   ·rw [iN c,iN (fun x=>c x.2)]
  ·obtain ⟨H,G,u,B⟩:=t.row a l
   refine ⟨H,by rw [f];exact G.other (fun e=>d (t.inj a i l hi e)) _,u,B.congr fun b _=>?_⟩
   unfold A2v
   rw [iN (fun x=>d x.1)]
def Mt.swap{P:cC}(t:Mt h g o bo rb n w M){i k:Nat}(hi:i<n)(hk:k<n){t':aZ}(one:P.cellsOf t'=1/\(P.info? t').isSome=true){ci ck:Nat}(hci:o.cell? (aC ⟨bo,0,none⟩ (i*1))=some (.slice (some ⟨rb i,0,none⟩) w ci))(hck:o.cell? (aC ⟨bo,0,none⟩ (k*1))=some (.slice (some ⟨rb k,0,none⟩) w ck))(hcw:w<=ci)(hcw2:w<=ck){X:Unit->aE->Prop}
 (xx:∀ h1,(∀ {K:Unit->aE->Prop},(∀ h' o',Mt h' g o' bo (fun a=>rb (xch i k a)) n w (fun a=>M (xch i k a))->(∀ k,k≠bo->o' k=o k)->K () h')->wpH P (aO t' (.pointer (some (aC ⟨bo,0,none⟩ (i*1)))) (.slice (some ⟨rb k,0,none⟩) w ck)) K h1)->X () h1):
 wpH P (aO t' (.pointer (some (aC ⟨bo,0,none⟩ (k*1)))) (.slice (some ⟨rb i,0,none⟩) w ci)) X h:=by
 obtain ⟨J,r,e,q⟩:=t.hd
 rw [E6,aN]
 refine Sep.store (E:=inferInstanceAs (Enc HV)) one (v:=.slice (some ⟨rb i,0,none⟩) w ci) (y:=(⟨some ⟨rb i,0,none⟩,w,ci⟩:HV)) rfl t.sep r (i:=k) (by omega) rfl ?_
 intro h1 R Q u F L
 refine xx h1 (fun {K} kk=>?_)
 rw [E6,aN]
 refine Sep.store (E:=inferInstanceAs (Enc HV)) one (v:=.slice (some ⟨rb k,0,none⟩) w ck) (y:=(⟨some ⟨rb k,0,none⟩,w,ck⟩:HV)) rfl F L (i:=i) (by simpa using (by omega:i<J.length)) rfl ?_
 intro s C S B D O
 have ko:∀ b,b≠bo->C b=o b:=fun b f=>by rw [B,C0 _ _ f,u,C0 _ _ f]
 have m:∀ a,a<n->xch i k a<n:=fun a d=>R8 hi hk d
 have j:∀ a b,xch i k a=xch i k b->a=b:=fun a b h=>by rw [<- A5u (k:=i) (l:=k) (i:=a),h,A5u]
 refine kk s C ⟨D,⟨_,O,by simpa using e,fun a d=>?_⟩,fun a d=>t.nb _ (m a d),fun a b d f h=>j a b (t.inj _ _ (m a d) (m b f) h),fun a d=>?_⟩ ko
 ·by_cases p:a=i
  ·subst p
   exact ⟨ck,by rw [bL (by simp;omega)];unfold xch;rw [iP rfl],hcw2⟩
  ·rw [bB (fun x=>p x.symm)]
   by_cases z:a=k
   ·subst z
    exact ⟨ci,by rw [bL (by omega)];unfold xch;rw [iN p,iP rfl],hcw⟩
   ·rw [bB (fun x=>z x.symm)]
    obtain ⟨c,h1,s⟩:=q a d
    exact ⟨c,by rw [h1];unfold xch;rw [iN p,iN z],s⟩
 ·obtain ⟨H,N,ex,G⟩:=t.row _ (m a d)
  obtain ⟨e,A,f⟩:=N
  exact ⟨H,⟨e,A,by rw [ko _ (t.nb _ (m a d))];exact f⟩,ex,G⟩
end
def RWr(w:Nat):aE->HV->(Nat->Rat)->Prop:=fun h s f=>s.n=w/\w<=s.c/\bV NQr h s.A w f
def B0b(w:Nat):Mon (RWr w):=fun _ _ _ _ l i=>⟨i.1,i.2.1,i.2.2.mono R6 l⟩
def RowsV.of{h:aE}{A:Option aI}{n w:Nat}{M:Nat->Nat->Rat}(r:bV (RWr w) h A n M):RowsV h A n w M:=r
def Wm{α:Type}[E:Enc α]{P:cC}{t e ty:aZ}{z:bD}{bytes:Nat}(st:SliceT P t e z E.default.size bytes){h g o:aE}(s:Sep h g o){A:Option aI}{B:Option aI}{d m:Nat}{ys:List α}(hm:m=ys.length)(hne:ys≠[])(sy:SlF h B ys)
 (hb:(2*ys.length+192)*bytes<=281474976710656) (hn:ys.length<=9223372036854775807) {K:VP}
 (x:∀ b c' h' g' o' y,o'=o.put b y->h b=none->g.le g'->Sep h' g' o'->ys.length<=c'->RowB o' b ys->K (.slice (some ⟨b,0,none⟩) m c') h'):wpH P (aS #[t,t] ty #[.slice A 0 0,.slice B m d]) K h:=by
 have p:PrivF h h e A 0 ([]:List α):=PrivF.nil h e A
 refine Kr st p hm sy (by simpa using hb) (by simpa using hn) ?_
 intro A' c' h' g' l j
 rw [List.nil_append] at j
 obtain ⟨b,y,D,a,w,_,C⟩:=B5d j hne
 obtain ⟨q,i,n⟩:=s.after l
 have f:=j.2.1
 have k:h b=none:=by
  cases hx:h b with
  | none=>rfl
  | some u=>rw [l b u hx] at a;cases a
 subst w
 obtain ⟨r,ex,c⟩:=C
 rw [C2] at c
 have:=x b c' _ q (o.put b y) y rfl k i (n.new a y) f ⟨r,ex,by rw [C2];exact c⟩
 rw [D,List.nil_append,<- hm]
 exact this
section
variable {h:aE} {K:VP} {A:Option aI} {n cap m w:Nat} {r c:Int} {ls:Nat->List UInt8} {M:Nat->Nat->Rat}
def Zc(rv':bV SSr h A n ls)(hn:n<=1000000)(hl:LL n ls)
 (hK1:∀ rows cols,MOk r c n ls rows cols->∀ b h',h.le h'->RowsV h' (some ⟨b,0,none⟩) rows cols (mtx (rvs ls) cols)->K (.tuple #[.slice (some ⟨b,0,none⟩) rows rows,.bool true]) h')
 (hK0:¬ Mx r c n ls->∀ h',h.le h'->K (.tuple #[.slice none 0 0,.bool false]) h'):aV prog A1u #[Dr r c A n cap] h K:=by
 refine B96 _ _ _ _ _ ?_
 unfold C58
 have no:∀ (_:¬ A7j r c n),K (.tuple #[.slice none 0 0,.bool false]) h:=fun hs=>hK0 (fun x=>hs (A9f.1 x).1) h (B5 _)
 refine B8 (fun e=>no fun s=>by have:=s.1;omega) (fun h1=>B8 (fun e=>no fun s=>by have:=s.2.1;omega) (fun O=>B8 (fun e=>no fun s=>by have:=s.2.2.1;omega) (fun M=>B8 (fun e=>no fun s=>by have:=s.2.2.2.1;omega) (fun S=>?_))))
 have Q:r*c<=64*64:=cU (by omega) (by omega) (by omega) (by omega)
 have D:0<=r*c:=cT (by omega) (by omega)
 have J:B7 (r*c)=r*c:=C1 (by omega) (by omega)
 rw [J]
 refine F8 (fun e=>no fun s=>e s.2.2.2.2) (fun h5=>?_)
 have G:A7j r c n:=⟨by omega,by omega,by omega,by omega,h5⟩
 refine Uw rv' hn hl (fun j b d own=>?_) (fun u h' l=>⟨_,_,_,_,rfl,hK0 (fun x=>u (A9f.1 x).2) h' l⟩)
 have mk:=MOk.of G j
 generalize r.toNat=rows at mk
 generalize c.toNat=cols at mk
 have:=mk.r1;have:=mk.r2;have:=mk.c1;have:=mk.c2
 obtain ⟨rfl,rfl,_,_,_,_,rfl,_⟩:=id mk
 have T:=own.vis R6
 refine ⟨_,_,_,_,rfl,N4 B9g (zx:=(⟨none,0,0⟩:HV)) rfl (by omega) (by omega) (by omega) (by omega) ?_⟩
 intro q p
 refine ⟨_,_,_,rfl,fun L m=>∃ k:Nat,k<=rows/\L=[I (k:Int)]/\OwnK (RWr cols) d m q rows k (mtx (rvs ls) cols),fun L _=>rows-(iAt L 0).toNat,⟨0,by omega,rfl,OwnK.zero p⟩,?_⟩
 rintro z m ⟨k,hk,Z,g,o,N,t,s,E,F,B⟩
 obtain rfl:=sI1 Z
 refine B8 (fun R=>?_) (fun aa=>?_)
 ·have f:k<rows:=by omega
  have O:(k+1)*cols<=rows*cols:=aF _ f
  have M:(k+1)*cols=k*cols+cols:=by rw [aL,aQ]
  have C:rows*cols<=64*64:=cH (by omega) (by omega)
  have w:B7 ((k:Int)+1)=((k+1:Nat):Int):=C1 (by omega) (by omega)
  have H:B7 ((k:Int)*(cols:Int))=((k*cols:Nat):Int):=by rw [<- bF];exact L6 (by omega)
  have W:B7 (B7 ((k:Int)+1)*(cols:Int))=(((k+1)*cols:Nat):Int):=by rw [w,<- bF];exact L6 (by omega)
  rw [H,W,w]
  refine ⟨⟨by omega,by omega⟩,⟨by omega,by simp only [aY];omega⟩,_,rfl,by omega,by omega,?_⟩
  simp only [aY]
  have V:(k+1)*cols-k*cols=cols:=by omega
  rw [V]
  have row:bV NQr d (I5 (some ⟨b,0,none⟩) (rows*cols) (k*cols) 4) cols (mtx (rvs ls) cols k):=T.cut (c:=rows*cols) (l:=k*cols) (k:=cols) (by omega) (aG _)
  refine OwnK.store (B0b cols) Tf (y:=(⟨I5 (some ⟨b,0,none⟩) (rows*cols) (k*cols) 4,cols,rows*cols-k*cols⟩:HV)) t (B5 _) s E (by simpa using F) B f rfl ⟨rfl,by show cols<=rows*cols-k*cols;omega,row.mono R6 t⟩ ?_
  intro S X
  exact ⟨⟨k+1,by omega,rfl,X⟩,by simp only [U7];omega⟩
 ·have:k=rows:=by omega
  subst this
  have a:Own (RWr cols) d m q k (mtx (rvs ls) cols):=⟨g,o,N,t,s,E,F,B⟩
  exact hK1 _ _ mk q m (B0 own.le a.le) (RowsV.of (a.vis (B0b cols)))
def Qp{rcap:Nat}(rs:RowsV h A n w M)(hn:n<=1000000)(hw1:1<=w)(hw:w<=1000000)(hn1:1<=n)
 (hK:∀ h' g' o' bo rb c',h.le g'->Mt h' g' o' bo rb n w M->K (.slice (some ⟨bo,0,none⟩) n c') h'):aV prog Vr #[.slice A n rcap] h K:=by
 refine B98 _ _ _ ?_
 unfold C5a
 refine ⟨fun L hp=>∃ (k:Nat) (g o:aE) (E:List HV) (rb:Nat->Nat) (A':Option aI) (c':Nat),k<=n/\L=[.slice A' k c',I (k:Int)]/\h.le g/\Sep hp g o/\OwnSl o G7 A' c' E/\E.length=k/\(∀ i,i<k->∃ c,E[i]? = some ⟨some ⟨rb i,0,none⟩,w,c⟩/\w<=c)/\(∀ i,i<k->A'≠some ⟨rb i,0,none⟩)/\(∀ i j,i<k->j<k->rb i=rb j->i=j)/\∀ i,i<k->∃ r:List QV,RowB o (rb i) r/\r.length=w/\Row NQr g r w (M i),fun L _=>n-(iAt L 1).toNat,
  ⟨0,h,V7,[],fun _=>0,none,0,by omega,rfl,B5 _,Sep.refl h,OwnSl.nil,rfl,fun i p=>by omega,fun i p=>by omega,fun i j p=>by omega,fun i p=>by omega⟩,?_⟩
 rintro oA on oc z hp ⟨k,g,o,E,rb,A',c',hk,eL,T,s,ow,b,t,D,u,l⟩
 obtain ⟨⟨rfl,rfl,rfl⟩,rfl⟩:=sI2 eL
 refine B8 (fun ak=>?_) (fun am=>?_)
 ·have W:on<n:=by omega
  refine Qm Sk ?_
  intro be F
  have S:=s.vis F (.cells #[] E9)
  have H:g.le (g.put be (.cells #[] E9)):=Heap.le_put _ (by
   cases B:g be with
   | none=>rfl
   | some y=>rw [s.le _ _ B] at F;cases F)
  have J:=B0 T H
  obtain ⟨a,sv,ea,G,R,hc,r,sx,Q,qx⟩:=rs.at W
  refine ⟨_,_,_,rfl,a,ea,by omega,by omega,_,_,_,B9 (B0 J S.le) hc,?_⟩
  refine Wm Sk S (ys:=r) (by omega) (by rintro rfl;simp at Q;omega) (sx.mono (B0 J S.le)) (by omega) (by omega) ?_
  intro m c2 h2 g2 o2 y X N l2 s2 al aa
  refine ⟨_,_,_,rfl,?_⟩
  have d:∀ q x,o q=some x->q≠m:=by
   rintro q x e rfl
   have:=S.ole q x e
   rw [this] at N;cases N
  have ag:OwnSl o2 G7 oA oc E:=ow.keep fun q x _ e=>by rw [X,C0 _ _ (d q x e)];exact e
  have ai:oA≠some ⟨m,0,none⟩:=by
   intro hA
   rcases ow.2 with ⟨_,h0⟩|⟨b',aj,C,ac,_⟩
   ·rw [hA] at h0;cases h0
   ·rw [hA] at C
    simp only [aJ,aP,and_true] at C
    exact d _ _ ac C.symm
  refine O3 (ty:=N9) B9g s2 ag b.symm (y:=(⟨some ⟨m,0,none⟩,sv.n,c2⟩:HV)) rfl (by decide) (by rw [b];omega) (by rw [b];omega) ?_
  intro A3 c3 h3 g3 o3 l3 s3 af kp
  have kq:∀ i,i<on->∃ x,o (rb i)=some x:=fun i p=>by
   obtain ⟨r,⟨e,ex,hb⟩,_⟩:=l i p;exact ⟨_,hb⟩
  obtain ⟨e5,ab,ae⟩:=id aa
  have k2:=kp m _ ae ai
  rw [b,wiS on (by omega)]
  have f:=B0 H (B0 l2 l3)
  refine ⟨⟨on+1,g3,o3,_,fun i=>if i=on then m else rb i,A3,c3,by omega,rfl,B0 T f,s3,af,by rw [aD,b];rfl,fun i p=>?_,fun i p=>?_,fun i j p hj h=>?_,fun i p=>?_⟩,?_⟩
  ·show ∃ c,(E++[(⟨some ⟨m,0,none⟩,sv.n,c2⟩:HV)])[i]? = some ⟨some ⟨if i=on then m else rb i,0,none⟩,w,c⟩/\w<=c
   by_cases e:i=on
   ·subst e
    exact ⟨c2,by rw [aR (by omega),b,iP rfl,G];simp,by omega⟩
   ·obtain ⟨c,h1,h2⟩:=t i (by omega)
    exact ⟨c,by rw [aM (by omega),iN e];exact h1,h2⟩
  ·show A3≠some ⟨if i=on then m else rb i,0,none⟩
   by_cases e:i=on
   ·rw [iP e];exact k2.2
   ·rw [iN e]
    obtain ⟨x,B⟩:=kq i (by omega)
    exact (kp (rb i) x (by rw [X,C0 _ _ (d _ _ B)];exact B) (D i (by omega))).2
  ·have h':(if i=on then m else rb i)=(if j=on then m else rb j):=h
   by_cases G:i=on
   ·by_cases R:j=on
    ·omega
    ·rw [iP G,iN R] at h'
     obtain ⟨x,B⟩:=kq j (by omega)
     exact absurd h'.symm (d _ _ B)
   ·by_cases R:j=on
    ·rw [iN G,iP R] at h'
     obtain ⟨x,B⟩:=kq i (by omega)
     exact absurd h' (d _ _ B)
    ·rw [iN G,iN R] at h'
     exact u i j (by omega) (by omega) h'
  ·show ∃ r:List QV,RowB o3 (if i=on then m else rb i) r/\_
   by_cases e:i=on
   ·subst e
    rw [iP rfl]
    exact ⟨r,⟨e5,ab,k2.1⟩,Q,qx.mono R6 (B0 T f)⟩
   ·rw [iN e]
    obtain ⟨ys,⟨ey,ah,O⟩,Z,qy⟩:=l i (by omega)
    refine ⟨ys,⟨ey,ah,?_⟩,Z,qy.mono R6 f⟩
    exact (kp (rb i) _ (by rw [X,C0 _ _ (d _ _ O)];exact O) (D i (by omega))).1
  ·show n-((on+1:Nat):Int).toNat<n-((on:Nat):Int).toNat
   omega
 ·have ad:on=n:=by omega
  subst ad
  obtain ⟨bo,rfl,V⟩:=ow.rowB (by rintro rfl;simp at b;omega)
  exact hK hp g o bo rb oc T ⟨s,⟨E,V,b,t⟩,fun i p e=>D i p (by rw [e]),u,l⟩
end
section
variable {α:Type} [E:Enc α]
def OwnSl.app{P:cC}{t e ty:aZ}{z:bD}{bytes:Nat}(st:SliceT P t e z E.default.size bytes){h g o:aE}{A:Option aI}{c:Nat}{xs:List α}(s:Sep h g o)(w:OwnSl o e A c xs){B:Option aI}{d m n:Nat}{ys:List α}(hxn:n=xs.length)(hm:m=ys.length)(hne:ys≠[])(sy:SlF h B ys)(hb:(2*(xs.length+ys.length)+192)*bytes<=281474976710656)(hn:xs.length+ys.length<=9223372036854775807){K:VP}
 (x:∀ A' c' h' g' o',g.le g'->Sep h' g' o'->OwnSl o' e A' c' (xs++ys)->(∀ k u,o k=some u->A≠some ⟨k,0,none⟩->o' k=some u/\A'≠some ⟨k,0,none⟩)->K (.slice A' (xs.length+m) c') h'):
 wpH P (aS #[t,t] ty #[.slice A n c,.slice B m d]) K h:=by
 subst hxn
 obtain ⟨gb,p,G⟩:=w.priv s
 refine Kr st p hm sy hb hn ?_
 intro A' c' h' g' hg N
 rw [aD,<- hm]
 have F:∀ k u,h k=some u->A≠some ⟨k,0,none⟩->g' k=some u:=by
  intro k u a hne
  exact hg k u (G k u a hne)
 have R:∀ k u,g k=some u->A≠some ⟨k,0,none⟩:=by
  intro k u a q
  rcases w.2 with ⟨_,S⟩|⟨f,j,i,l,_⟩
  ·rw [q] at S;cases S
  ·rw [q] at i
   simp only [aJ,aP,and_true] at i
   subst i
   rw [s.dis k _ l] at a;cases a
 rcases N.2.2 with ⟨aa,_⟩|⟨f,j,i,l,J,Z,X⟩
 ·exfalso
  have:=N.2.1
  rw [aD] at this
  have:ys.length≠0:=fun h=>hne (bO h)
  omega
 ·subst i
  let o':aE:=fun k=>if k=f then some (.cells (bK j) e) else if A=some ⟨k,0,none⟩ then none else o k
  have V:o' f=some (.cells (bK j) e):=by show (if f=f then _ else _)=_;rw [iP rfl]
  have ok:∀ k,k≠f->A≠some ⟨k,0,none⟩->o' k=o k:=fun k H r=>by show (if k=f then _ else if _ then _ else _)=_;rw [iN H,iN r]
  have O:∀ k,k≠f->A=some ⟨k,0,none⟩->o' k=none:=fun k H r=>by show (if k=f then _ else if _ then _ else _)=_;rw [iN H,iP r]
  let g2:aE:=fun k=>match o' k with|some _=>none|none=>h' k
  have gs:∀ k u,o' k=some u->g2 k=none:=fun k u a=>by show (match o' k with|some _=>none|none=>h' k)=_;rw [a]
  have W:∀ k,o' k=none->g2 k=h' k:=fun k a=>by show (match o' k with|some _=>none|none=>h' k)=_;rw [a]
  have C:∀ k u,k≠f->g' k=some u->h' k=some u:=fun k u H a=>by rw [J,C0 _ _ H];exact a
  have L:∀ k u,o k=some u->A≠some ⟨k,0,none⟩->k≠f:=by
   rintro k u a r rfl
   have:=F k u (s.own k u a) r
   rw [l] at this;cases this
  refine x _ c' h' g2 o' (fun k u a=>?_) ⟨fun k u a=>?_,fun k a=>(W k a).symm,gs⟩ ⟨N.2.1,.inr ⟨f,j,rfl,V,Z,X⟩⟩ (fun k u a r=>?_)
  ·have M:o k=none:=by
    cases ho:o k with
    | none=>rfl
    | some y=>rw [s.dis k y ho] at a;cases a
   have q:=R k u a
   have Q:=F k u (s.le k u a) q
   have D:k≠f:=by rintro rfl;rw [l] at Q;cases Q
   rw [W k (by rw [ok k D q];exact M)]
   exact C k u D Q
  ·by_cases b:k=f
   ·subst b
    rw [V] at a;cases a
    rw [J,C2]
   ·by_cases q:A=some ⟨k,0,none⟩
    ·rw [O k b q] at a;cases a
    ·rw [ok k b q] at a
     exact C k u b (F k u (s.own k u a) q)
  ·have b:=L k u a r
   refine ⟨by rw [ok k b r];exact a,fun T=>b ?_⟩
   simp only [aJ,aP,and_true] at T
   exact T.symm
end
def Gs(M:Nat->Nat->Rat)(w:Nat):Nat->List UInt8:=fun k=>K4 (M (k/w) (k%w))
section
variable {h:aE} {K:VP} {A:Option aI} {n cap m w:Nat} {M:Nat->Nat->Rat}
def Zd(rs:RowsV h A n w M)(hn:n<=10000)(hw1:1<=w)(hw:w<=10000)(hn1:1<=n)(hs:∀ i j,i<n->j<w->Sz m (M i j))(hm:m<=400000000)
 (hK:∀ A' c' h',h.le h'->n*w<=c'->bV SSr h' A' (n*w) (Gs M w)->K (Dr n w A' (n*w) c') h'):aV prog A1v #[.slice A n cap] h K:=by
 refine B97 _ _ _ ?_
 unfold C59
 refine D8 (fun e=>by omega) (fun _=>?_)
 obtain ⟨a,sv,rfl,l,e2,hc,_⟩:=rs.at (i:=0) (by omega)
 have X:n*w<=10000*10000:=cH hn hw
 refine ⟨a,rfl,by omega,by omega,_,_,_,hc,fun L F=>∃ (k:Nat) (g o:aE) (p:List (List UInt8)) (A':Option aI) (c':Nat),k<=n/\L=[I (k:Int),I (n:Int),I (w:Int),.slice A' (k*w) c']/\h.le g/\Sep F g o/\OwnSl o Q1 A' c' p/\p.length=k*w/\Row SSr g p (k*w) (Gs M w),fun L _=>n-(iAt L 0).toNat,⟨0,h,V7,[],none,0,by omega,by rw [l,Nat.zero_mul];rfl,B5 _,Sep.refl h,OwnSl.nil,by simp,by rw [Nat.zero_mul];exact Row.nil⟩,?_⟩
 rintro z m0 m1 W mn mc F ⟨k,g,o,p,A',c',hk,O,t,s,G,b,N⟩
 simp only [aX,bU,aT,true_and,and_true] at O
 obtain ⟨rfl,rfl,rfl,rfl,rfl,rfl⟩:=O
 refine B8 (fun T=>?_) (fun aa=>?_)
 ·have c:k<n:=by omega
  obtain ⟨a1,s1,V,f1,f2,J,row⟩:=rs.at c
  have C:=B0 t s.le
  have r:(k+1)*w=k*w+w:=by rw [aL,aQ]
  have ab:(k+1)*w<=n*w:=aF _ c
  refine ⟨a1,V,by omega,by omega,_,_,_,B9 C J,?_⟩
  rw [f1]
  refine s.call (Yo (row.mono R6 t) (by omega) (fun j hj=>hs k j c hj) (by omega) ?_)
  intro b2 g2 own h2 y
  have q:=own.le
  obtain ⟨ys,sy,f,qy⟩:=own.vis J5
  refine ⟨_,_,_,rfl,s.le_le y q,?_⟩
  refine OwnSl.app (ty:=Gb) Ao y G (by omega) f.symm (by rintro rfl;simp at f;omega) (sy.mono y.le) (by omega) (by omega) ?_
  intro A3 c3 h3 S R l3 s3 H _
  rw [b,<- r,wiS k (by omega)]
  refine ⟨_,_,_,rfl,⟨k+1,S,R,_,A3,c3,by omega,rfl,B0 t (B0 q l3),s3,H,by rw [aD,b,f,r],fun i hi=>?_⟩,by simp only [U7];omega⟩
  by_cases e:i<k*w
  ·obtain ⟨u,l,B⟩:=N i e
   exact ⟨u,by rw [aM (by omega)];exact l,B⟩
  ·obtain ⟨j0,rfl⟩:∃ j0,i=k*w+j0:=⟨i-k*w,by omega⟩
   have d:j0<w:=by omega
   obtain ⟨u,l,B⟩:=qy j0 d
   refine ⟨u,by rw [aR (by omega),b,cY];exact l,?_⟩
   have D:u=K4 (M k j0):=B
   have Z:(k*w+j0)/w=k:=by rw [bJ,cP (by omega),cM d,cF]
   have E:(k*w+j0)%w=j0:=by rw [bJ,Nat.mul_add_mod,Nat.mod_eq_of_lt d]
   show u=Gs M w (k*w+j0)
   unfold Gs
   rw [Z,E];exact D
 ·have:k=n:=by omega
  subst this
  have Q:=G.1
  exact hK W mc F (B0 t s.le) (by omega) ⟨p,G.slF s.ole,b,N.mono J5 s.le⟩
end
abbrev ecE(M:Nat->Nat->Rat)(n c:Nat):ES:=B1o n ⟨M,[],1⟩ c
def B2g{n:Nat}{s:ES}{c:Nat}(h:n<=(B1o n s c).cs.length):∀ d,B1o n s (c+d)=B1o n s c:=by
 intro d
 induction d with
 | zero=>rfl
 | succ d ih=>
  show Ik n (c+d) (B1o n s (c+d))=_
  rw [ih]
  unfold Ik
  rw [iN (by omega)]
def A22(M:Nat->Nat->Rat)(n:Nat):∀ c,(ecE M n c).cs.length<=c/\(ecE M n c).cs.length<=n:=by
 intro c
 induction c with
 | zero=>exact ⟨aG _,bY _⟩
 | succ c ih=>
  show (Ik n c (ecE M n c)).cs.length<=c+1/\(Ik n c (ecE M n c)).cs.length<=n
  unfold Ik
  split
  ·split
   ·show ((ecE M n c).cs++[c]).length<=c+1/\((ecE M n c).cs++[c]).length<=n
    rw [aD]
    exact ⟨Nat.succ_le_succ ih.1,by simp only [List.length_cons,List.length_nil];omega⟩
   ·show (ecE M n c).cs.length<=c+1/\_
    exact ⟨bZ ih.1,ih.2⟩
  ·exact ⟨bZ ih.1,ih.2⟩
def B0l(M:Nat->Nat->Rat)(n c:Nat):Rat:=if (ecE M n c).cs.length<c then 0 else (ecE M n c).det
abbrev qc(w:QV):List bD:=[.bool w.s,.slice w.A w.n w.c,.bool w.s2,.slice w.A2 w.n2 w.c2]
def C1q{w:QV}{a b:Bool}{A B:Option aI}{n c n' c':Nat}{l l':List bD}(h:(.bool a:bD) :: .slice A n c :: .bool b :: .slice B n' c'::l= .bool w.s :: .slice w.A w.n w.c :: .bool w.s2 :: .slice w.A2 w.n2 w.c2::l'):(⟨a,A,n,c,b,B,n',c'⟩:QV)=w/\l=l':=by
 simp only [aX,bM,aT] at h
 obtain ⟨rfl,⟨rfl,rfl,rfl⟩,rfl,⟨rfl,rfl,rfl⟩,h⟩:=h
 exact ⟨rfl,h⟩
def Sj(bo:Nat)(rb:Nat->Nat)(n:Nat)(A:Option aI):Prop:=A≠some ⟨bo,0,none⟩/\∀ i,i<n->A≠some ⟨rb i,0,none⟩
section
variable {g o h11 h14 h15 hp2:aE} {bo n w r c i B:Nat} {rb:Nat->Nat} {R:Nat->Nat->Rat} {x:QV} {q:Rat} {Invv Invv3:LP} {muv muv3:LN}
def C6i(t:Mt h15 g o bo rb n w R)(hi:i<n)(hr:r<n)(hir:i≠r)(hcw:c<=w)(hn:n<=10000)(hw:w<=10000)(ix:NQ g x q)(s1:∀ b,b<w->Sz B (R i b))(s2:∀ b,b<w->Sz (B+B) (R r b))(s3:Sz B q)(hB:B*7<=100000000)
 (fin:∀ h' g' o',g.le g'->Mt h' g' o' bo rb n w (fun a b=>if a=i/\c<=b then R i b-q*R r b else R a b)->(∀ b,(∀ i,i<n->b≠rb i)->o' b=o b)->Invv3 [I (B7 ((i:Int)+1))] h'/\muv3 [I (B7 ((i:Int)+1))] h'<muv3 [I (i:Int)] h14):
 Mz prog (some ⟨bo,0,none⟩) n r (c:Int) Invv3 muv3 (i:Int) x.s x.A x.n x.c x.s2 x.A2 x.n2 x.c2 h15 h14:=by
 unfold Mz
 refine ⟨fun L X=>∃ (k:Nat) (g' o':aE),c<=k/\k<=w/\L=[I (k:Int)]/\g.le g'/\Mt X g' o' bo rb n w (fun a b=>if a=i/\c<=b/\b<k then R i b-q*R r b else R a b)/\(∀ b,(∀ i,i<n->b≠rb i)->o' b=o b),fun L _=>w-(iAt L 0).toNat,⟨c,g,o,aG _,hcw,rfl,B5 _,t.congr (fun a b _ _=>by rw [iN (by omega)]),fun _ _=>rfl⟩,?_⟩
 rintro z F ⟨k,g6,o6,M,ae,J,N,e,u⟩
 obtain rfl:=sI1 J
 obtain ⟨c6,ag,H⟩:=e.head hi
 have l:=e.sep.cell H
 refine ⟨_,rfl,by omega,by omega,_,_,_,l,B8 (fun ab=>?_) (fun af=>?_)⟩
 ·have d:k<w:=by omega
  obtain ⟨c7,ac,O⟩:=e.head hr
  obtain ⟨y,T,y0,y1,y2,y3⟩:=e.elem hi d
  obtain ⟨v,V,v0,v1,v2,v3⟩:=e.elem hr d
  rw [iN (by omega)] at T
  rw [iN (fun x=>hir x.1.symm)] at V
  refine ⟨_,rfl,by omega,by omega,_,_,_,l,_,rfl,by omega,by omega,_,_,_,l,_,rfl,by omega,by omega,_,_,_,_,_,_,_,_,e.sep.cell y0,e.sep.cell y1,e.sep.cell y2,e.sep.cell y3,_,rfl,by omega,by omega,_,_,_,e.sep.cell O,_,rfl,by omega,by omega,_,_,_,_,_,_,_,_,e.sep.cell v0,e.sep.cell v1,e.sep.cell v2,e.sep.cell v3,?_⟩
  refine e.sep.call (Fa (ix.mono N) V (s3.mono (show B<=B+B by omega)) (s2 k d) (by omega) ?_)
  intro w7 g7 C i7 W f
  have t7:=e.next f C
  refine ⟨_,_,_,_,_,_,_,_,rfl,e.sep.le_le f C,?_⟩
  refine f.call (Ny (T.mono C) i7 ((s1 k d).mono (show B<=B+(B+B) by omega)) (s3.mul (s2 k d)) (by omega) ?_)
  intro w8 g8 G i8 aa p
  have Z:=t7.next p G
  refine ⟨_,_,_,_,_,_,_,_,rfl,f.le_le p G,_,rfl,by omega,by omega,?_⟩
  refine Z.store hi d (x:=w8) i8 ?_
  intro ad S Q m
  rw [wiS k (by omega)]
  refine ⟨⟨k+1,g8,S,by omega,by omega,rfl,B0 N (B0 C G),Q.congr (fun a b _ _=>?_),fun b E=>by rw [m b (E _ hi),u b E]⟩,by simp only [U7];omega⟩
  show (if a=i/\b=k then R i k-q*R r k else if a=i/\c<=b/\b<k then R i b-q*R r b else R a b)=if a=i/\c<=b/\b<k+1 then R i b-q*R r b else R a b
  by_cases j:a=i/\b=k
  ·obtain ⟨rfl,rfl⟩:=j
   rw [iP ⟨rfl,rfl⟩,iP ⟨rfl,M,by omega⟩]
  ·rw [iN j]
   by_cases D:a=i/\c<=b/\b<k
   ·rw [iP D,iP ⟨D.1,D.2.1,by omega⟩]
   ·rw [iN D,iN (by omega)]
 ·have d:k=w:=by omega
  subst d
  refine fin F g6 o6 N (e.congr (fun a b _ E=>?_)) u
  by_cases j:a=i/\c<=b
  ·rw [iP j,iP ⟨j.1,j.2,E⟩]
  ·rw [iN j,iN (fun x=>j ⟨x.1,x.2.1⟩)]
def C6j{pA:Option aI}{pc:Nat}{d0 d2 e0 e2:Bool}{d1A d3A e1A e3A:Option aI}{d1n d1c d3n d3c e1n e1c e3n e3c:Nat}(t:Mt h11 g o bo rb n w (fun a b=>if a=r then R r b/R r c else R a b))(hr:r<n)(hcw:c<w)(hn:n<=10000)(hw:w<=10000)(hB1:1<=B)(hR:∀ a b,a<n->b<w->Sz B (R a b))(hB:B*7<=100000000)
 (fin:∀ h' g' o',g.le g'->Mt h' g' o' bo rb n w (elimE R r c)->(∀ b,(∀ i,i<n->b≠rb i)->o' b=o b)->wpH prog (bC Gc 1 #[(0,I (c:Int))]) (fun v hp20=>∃ (t167A:Option aI) (t167n:Nat) (t167c:Nat),v= .slice t167A t167n t167c/\wpH prog (aS #[Gc,Gc] Gc #[.slice pA r pc,.slice t167A t167n t167c]) (fun v1 hp21=>∃ (t168A:Option aI) (t168n:Nat) (t168c:Nat),v1= .slice t168A t168n t168c/\Invv [.slice t168A t168n t168c,I (B7 ((c:Int)+(1:Int))),.bool e0,.slice e1A e1n e1c,.bool e2,.slice e3A e3n e3c] hp21/\muv [.slice t168A t168n t168c,I (B7 ((c:Int)+(1:Int))),.bool e0,.slice e1A e1n e1c,.bool e2,.slice e3A e3n e3c] hp21<muv [.slice pA r pc,I (c:Int),.bool d0,.slice d1A d1n d1c,.bool d2,.slice d3A d3n d3c] hp2) hp20) h'):
 Ho prog (some ⟨bo,0,none⟩) n Invv muv pA r pc (c:Int) d0 d1A d1n d1c d2 d3A d3n d3c e0 e1A e1n e1c e2 e3A e3n e3c hp2 h11:=by
 unfold Ho
 refine ⟨fun L l=>∃ (i:Nat) (g' o':aE),i<=n/\L=[I (i:Int)]/\g.le g'/\Mt l g' o' bo rb n w (fun a b=>if a=r then R r b/R r c else if a<i then elimE R r c a b else R a b)/\(∀ b,(∀ i,i<n->b≠rb i)->o' b=o b),fun L _=>n-(iAt L 0).toNat,⟨0,g,o,by omega,rfl,B5 _,t.congr (fun a b _ m=>?_),fun _ _=>rfl⟩,?_⟩
 ·by_cases d:a=r
  ·rw [iP d,iP d]
  ·rw [iN d,iN d,iN (by omega)]
 rintro z u ⟨i,S,M,hi,C,F,k,p⟩
 obtain rfl:=sI1 C
 have y:B7 ((i:Int)+1)=((i+1:Nat):Int):=by rw [C1]<;>omega
 refine B8 (fun Q=>?_) (fun O=>?_)
 ·have f:i<n:=by omega
  obtain ⟨c5,aa,E⟩:=k.head f
  obtain ⟨x,H,V,W,x2,x3⟩:=k.elem f hcw
  refine ⟨_,rfl,by omega,by omega,_,_,_,k.sep.cell E,_,rfl,by omega,by omega,_,_,_,_,_,_,_,_,k.sep.cell V,k.sep.cell W,k.sep.cell x2,k.sep.cell x3,?_⟩
  have same:∀ (l:i=r\/R i c=0),(∃ (i':Nat) (g' o':aE),i'<=n/\[I (B7 ((i:Int)+1))]=[I (i':Int)]/\g.le g'/\Mt u g' o' bo rb n w (fun a b=>if a=r then R r b/R r c else if a<i' then elimE R r c a b else R a b)/\(∀ b,(∀ i,i<n->b≠rb i)->o' b=o b))/\n-(iAt [I (B7 ((i:Int)+1))] 0).toNat<n-(iAt [I (i:Int)] 0).toNat:=by
   intro l
   rw [y]
   refine ⟨⟨i+1,S,M,by omega,rfl,F,k.congr (fun a b _ _=>?_),p⟩,by simp only [U7];omega⟩
   by_cases d:a=r
   ·rw [iP d,iP d]
   ·rw [iN d,iN d]
    by_cases s:a<i
    ·rw [iP s,iP (by omega)]
    ·rw [iN s]
     by_cases N:a<i+1
     ·rw [iP N]
      have:a=i:=by omega
      subst this
      rcases l with l|l
      ·exact absurd l d
      ·unfold elimE
       rw [iN d,iP (.inl l)]
     ·rw [iN N]
  refine D8 (fun he=>same (.inl (by omega))) (fun he=>?_)
  have j:i≠r:=by omega
  rw [iN j,iN (aU i)] at H
  refine Q8 (H.mono k.sep.le) ⟨_,rfl,D8 (fun e=>?_) (fun e=>?_)⟩
  ·exact same (.inr (by rw [cV] at e;exact Rat.num_eq_zero.1 e))
  have J:R i c≠0:=fun h=>e (by rw [h];rfl)
  refine C6i (B:=B) k f hr j (by omega) hn hw H (fun b m=>by rw [iN j,iN (aU i)];exact hR i b f m) (fun b m=>by rw [iP rfl];exact (hR r b hr m).div (hR r c hr hcw) hB1) (hR i c f hcw) hB ?_
  intro T X o6 l6 t6 G
  rw [y]
  refine ⟨⟨i+1,X,o6,by omega,rfl,B0 F l6,t6.congr (fun a b _ m=>?_),fun b m=>by rw [G b m,p b m]⟩,by simp only [U7];omega⟩
  by_cases d:a=i
  ·subst d
   rw [iN j,iP (show a<a+1 by omega)]
   unfold elimE
   rw [iN j]
   by_cases q:c<=b
   ·have D:¬ (R a c=0\/b<c):=by
     rintro (h|h)
     ·exact J h
     ·omega
    rw [iP ⟨rfl,q⟩,iN j,iN (aU a),iP rfl,iN D]
   ·rw [iN (fun x=>q x.2),iN j,iN (aU a),iP (.inr (by omega))]
  ·rw [iN (fun x=>d x.1)]
   by_cases A:a=r
   ·rw [iP A,iP A]
   ·rw [iN A,iN A]
    by_cases s:a<i
    ·rw [iP s,iP (by omega)]
    ·rw [iN s,iN (by omega)]
 ·have f:i=n:=by omega
  subst f
  exact fin u S M F (k.congr (fun a b Z _=>by
   by_cases d:a=r
   ·rw [iP d];unfold elimE;rw [iP d]
   ·rw [iN d,iP Z])) p
def C6k{h10:aE}{xf:QV}{pA:Option aI}{pc:Nat}{d0 d2 e0 e2:Bool}{d1A d3A e1A e3A:Option aI}{d1n d1c d3n d3c e1n e1c e3n e3c:Nat}(t:Mt h10 g o bo rb n w R)(hr:r<n)(hcw:c<w)(hn:n<=10000)(hw:w<=10000)(ixf:NQ g xf (R r c))(hR:∀ b,b<w->Sz B (R r b))(hB:B*7<=100000000)
 (fin:∀ h' g' o',g.le g'->Mt h' g' o' bo rb n w (fun a b=>if a=r then R r b/R r c else R a b)->(∀ b,(∀ i,i<n->b≠rb i)->o' b=o b)->Ho prog (some ⟨bo,0,none⟩) n Invv muv pA r pc (c:Int) d0 d1A d1n d1c d2 d3A d3n d3c e0 e1A e1n e1c e2 e3A e3n e3c hp2 h'):
 Na prog (some ⟨bo,0,none⟩) n Invv muv pA r pc (c:Int) d0 d1A d1n d1c d2 d3A d3n d3c xf.s xf.A xf.n xf.c xf.s2 xf.A2 xf.n2 xf.c2 e0 e1A e1n e1c e2 e3A e3n e3c h10 hp2:=by
 unfold Na
 refine ⟨fun L Q=>∃ (j:Nat) (g' o':aE),j<=w/\L=[I (j:Int)]/\g.le g'/\Mt Q g' o' bo rb n w (fun a b=>if a=r/\b<j then R r b/R r c else R a b)/\(∀ b,(∀ i,i<n->b≠rb i)->o' b=o b),fun L _=>w-(iAt L 0).toNat,⟨0,g,o,by omega,rfl,B5 _,t.congr (fun a b _ _=>by rw [iN (by omega)]),fun _ _=>rfl⟩,?_⟩
 rintro z C ⟨j,g4,S,hj,y,D,e,k⟩
 obtain rfl:=sI1 y
 obtain ⟨aa,H,G⟩:=e.head hr
 have f:=e.sep.cell G
 refine ⟨_,rfl,by omega,by omega,_,_,_,f,B8 (fun W=>?_) (fun ab=>?_)⟩
 ·have d:j<w:=by omega
  obtain ⟨x,M,O,T,x2,x3⟩:=e.elem hr d
  rw [iN (by omega)] at M
  refine ⟨_,rfl,by omega,by omega,_,_,_,f,_,rfl,by omega,by omega,_,_,_,f,_,rfl,by omega,by omega,_,_,_,_,_,_,_,_,e.sep.cell O,e.sep.cell T,e.sep.cell x2,e.sep.cell x3,?_⟩
  refine e.sep.call (Ul M (ixf.mono D) (hR _ d) (hR _ hcw) (by omega) ?_)
  intro X g5 E N V l
  refine ⟨_,_,_,_,_,_,_,_,rfl,e.sep.le_le l E,_,rfl,by omega,by omega,?_⟩
  have Z:=e.next l E
  refine Z.store hr d (x:=X) N ?_
  intro ac F u m
  rw [wiS j (by omega)]
  refine ⟨⟨j+1,g5,F,by omega,rfl,B0 D E,u.congr (fun a b _ _=>?_),fun b q=>by rw [m b (q _ hr),k b q]⟩,by simp only [U7];omega⟩
  show (if a=r/\b=j then R r j/R r c else if a=r/\b<j then R r b/R r c else R a b)=if a=r/\b<j+1 then R r b/R r c else R a b
  by_cases J:a=r/\b=j
  ·obtain ⟨rfl,rfl⟩:=J
   rw [iP ⟨rfl,rfl⟩,iP ⟨rfl,by omega⟩]
  ·rw [iN J]
   by_cases e2:a=r/\b<j
   ·rw [iP e2,iP ⟨e2.1,by omega⟩]
   ·rw [iN e2,iN (by omega)]
 ·have d:j=w:=by omega
  subst d
  refine fin C g4 S D (e.congr (fun a b _ q=>?_)) k
  by_cases p:a=r
  ·rw [iP ⟨p,q⟩,iP p]
  ·rw [iN (fun x=>p x.1),iN p]
end
section
variable {g o h5 h9 hp2:aE} {bo n w r c B k:Nat} {rb:Nat->Nat} {R:Nat->Nat->Rat} {q:Rat} {Invv:LP} {muv:LN} {pA:Option aI} {pc:Nat} {wd wd0:QV} {l:List Nat}
def C6l(hl:l.length=r)(t:Mt h9 g o bo rb n w R)(ow:OwnSl o F9 pA pc (zs l))(ap:Sj bo rb n pA)(iq:NQ g wd q)(hr:r<n)(hcw:c<w)(hn:n<=10000)(hw:w<=10000)(hB1:1<=B)(hq:Sz B q)(hR:∀ a b,a<n->b<w->Sz B (R a b))(hB:B*7<=100000000)
 (fin:∀ h' g' o' A' c' wd',g.le g'->Mt h' g' o' bo rb n w (elimE R r c)->OwnSl o' F9 A' c' (zs (l++[c]))->Sj bo rb n A'->NQ g' wd' (q*R r c)->Invv (.slice A' (r+1) c'::I (B7 ((c:Int)+1))::qc wd') h'/\muv (.slice A' (r+1) c'::I (B7 ((c:Int)+1))::qc wd') h'<muv (.slice pA r pc::I (c:Int)::qc wd0) hp2):
 Nb prog (some ⟨bo,0,none⟩) n Invv muv pA r pc (c:Int) wd0.s wd0.A wd0.n wd0.c wd0.s2 wd0.A2 wd0.n2 wd0.c2 wd.s wd.A wd.n wd.c wd.s2 wd.A2 wd.n2 wd.c2 hp2 h9:=by
 unfold Nb
 obtain ⟨ch,aa,kh⟩:=t.head hr
 obtain ⟨xf,m,F,N,Q,J⟩:=t.elem hr hcw
 refine ⟨_,rfl,by omega,by omega,_,_,_,t.sep.cell kh,_,rfl,by omega,by omega,_,_,_,_,_,_,_,_,t.sep.cell F,t.sep.cell N,t.sep.cell Q,t.sep.cell J,?_⟩
 refine t.sep.call (Fa iq m hq (hR _ _ hr hcw) (by omega) ?_)
 intro C g3 S i4 ab H
 refine ⟨_,_,_,_,_,_,_,_,rfl,?_⟩
 refine C6k (B:=B) (t.next H S) hr hcw hn hw (m.mono S) (fun b p=>hR _ b hr p) hB ?_
 intro ac g4 o4 W t4 E
 refine C6j (B:=B) t4 hr hcw hn hw hB1 hR hB ?_
 intro ad g5 V X u j
 have D:∀ b,(∀ i,i<n->b≠rb i)->V b=o b:=fun b p=>by rw [j b p,E b p]
 have O:OwnSl V F9 pA pc (zs l):=ow.keep fun b x hA e=>by rw [D b (fun i hi e=>ap.2 i hi (by rw [<- e];exact hA))];exact e
 have d:(zs l).length=r:=by simp [hl]
 refine O3 (ty:=Gc) C3n u.sep O d.symm (y:=((c:Nat):Int)) rfl (by decide) (by rw [d];omega) (by rw [d];omega) ?_
 intro A6 c6 z g6 o6 T s6 M f
 obtain ⟨⟨y0,L⟩,G⟩:=u.own
 have t6:=u.keep s6 T (fun k x e Z=>by
  rcases Z with rfl|⟨q,hq,rfl⟩
  ·exact (f _ _ e ap.1).1
  ·exact (f _ _ e (ap.2 q hq)).1)
 rw [d]
 refine fin z g6 o6 A6 c6 C (B0 S (B0 W (B0 X T))) t6 (by simpa [zs] using M) ⟨(f _ _ L ap.1).2,fun q hq=>?_⟩ (i4.mono (B0 W (B0 X T)))
 obtain ⟨x,hx⟩:=G q hq
 exact (f _ _ hx (ap.2 q hq)).2
def C6m(hl:l.length=r)(t:Mt h5 g o bo rb n w R)(ow:OwnSl o F9 pA pc (zs l))(ap:Sj bo rb n pA)(iq:NQ g wd0 q)(hr:r<n)(hk:k<=n)(hcw:c<w)(hn:n<=10000)(hw:w<=10000)(hB1:1<=B)(hq:Sz B q)(hR:∀ a b,a<n->b<w->Sz B (R a b))(hB:B*7<=100000000)
 (fin0:k=n->Invv (.slice pA r pc::I (B7 ((c:Int)+1))::qc ⟨false,none,0,0,false,none,0,0⟩) h5/\muv (.slice pA r pc::I (B7 ((c:Int)+1))::qc ⟨false,none,0,0,false,none,0,0⟩) h5<muv (.slice pA r pc::I (c:Int)::qc wd0) hp2)
 (fin:k<n->∀ h' g' o' rb' A' c' wd',g.le g'->Mt h' g' o' bo rb' n w (elimE (fun i=>R (xch r k i)) r c)->OwnSl o' F9 A' c' (zs (l++[c]))->Sj bo rb' n A'->NQ g' wd' ((if k=r then q else -q)*R k c)->Invv (.slice A' (r+1) c'::I (B7 ((c:Int)+1))::qc wd') h'/\muv (.slice A' (r+1) c'::I (B7 ((c:Int)+1))::qc wd') h'<muv (.slice pA r pc::I (c:Int)::qc wd0) hp2):
 Nc prog (some ⟨bo,0,none⟩) n Invv muv pA r pc (c:Int) wd0.s wd0.A wd0.n wd0.c wd0.s2 wd0.A2 wd0.n2 wd0.c2 (k:Int) hp2 h5:=by
 unfold Nc
 refine D8 (fun e=>fin0 (by omega)) (fun af=>?_)
 have d:k<n:=by omega
 have p:∀ i,i<n->xch r k i<n:=fun i hi=>R8 hr d hi
 have xk:xch r k r=k:=Ak _ _
 refine ⟨fun L hq=>∃ (C o2:aE) (f:Nat->Nat) (wd:QV),L=qc wd/\g.le C/\Mt hq C o2 bo f n w (fun i=>R (xch r k i))/\OwnSl o2 F9 pA pc (zs l)/\Sj bo f n pA/\NQ C wd (if k=r then q else -q),?_,?_⟩
 ·refine F8 (fun ae=>?_) (fun ad=>?_)
  ·have u:k≠r:=by omega
   obtain ⟨c1,ac,k1⟩:=t.head hr
   obtain ⟨c2,O,k2⟩:=t.head d
   refine ⟨_,rfl,by omega,by omega,_,_,_,t.sep.cell k1,_,rfl,by omega,by omega,_,_,_,t.sep.cell k2,_,rfl,by omega,by omega,?_⟩
   refine t.swap hr d Tf k1 k2 ac O (fun h6 Z=>⟨_,rfl,by omega,by omega,Z (fun h7 o7 t7 X=>?_)⟩)
   refine t7.sep.call (A3n iq (fun z i3 h8 s8=>⟨_,_,_,_,_,_,_,_,rfl,?_⟩))
   refine ⟨g,o7,_,z,rfl,B5 _,t7.next s8 (B5 _),ow.keep fun b x hA e=>?_,⟨ap.1,fun i hi=>ap.2 _ (p i hi)⟩,by rw [iN u];exact i3⟩
   rw [X b (fun e=>ap.1 (by rw [<- e];exact hA))];exact e
  ·have m:k=r:=by omega
   refine ⟨g,o,rb,wd0,rfl,B5 _,t.congr (fun i j _ _=>?_),ow,ap,by rw [iP m];exact iq⟩
   rw [m];unfold xch;grind
 rintro e0 S N H e2 V M D h9 ⟨C,o2,f,z,E,Q,t2,W,G,J⟩
 obtain ⟨rfl,_⟩:=C1q E
 have ab:Sz B (if k=r then q else -q):=by
  split
  ·exact hq
  ·exact hq.neg
 refine C6l (wd:=⟨e0,S,N,H,e2,V,M,D⟩) hl t2 W G J hr hcw hn hw hB1 ab (fun a b ha hb=>hR _ b (p a ha) hb) hB ?_
 intro h' g' o' A' c' wd' T t' F aa y
 rw [xk] at y
 exact fin d h' g' o' f A' c' wd' (B0 Q T) t' F aa y
end
section
variable {h:aE} {K:VP} {A:Option aI} {n cap m w:Nat} {M:Nat->Nat->Rat}
def Xu{cols nq:Nat}(rs:RowsV h A n w M)(hn1:1<=n)(hn:n<=10000)(hw1:1<=w)(hw:w<=10000)(hc:cols<=w)(hm1:1<=m)(hs:∀ i j,i<n->j<w->Sz m (M i j))(hnq:∀ c,c<cols->(ecE M n c).cs.length<nq)(hm:7^nq*m<=100000000)
 (hK:∀ h' g' o' bo rb c' A' cap' wd,h.le g'->Mt h' g' o' bo rb n w (ecE M n cols).R->OwnSl o' F9 A' cap' (zs (ecE M n cols).cs)->Sj bo rb n A'->NQ g' wd (B0l M n cols)->
  K (.tuple #[.slice (some ⟨bo,0,none⟩) n c',.slice A' (ecE M n cols).cs.length cap',wd.v]) h'):aV prog Kl #[.slice A n cap,I (cols:Int)] h K:=by
 refine A7r _ _ _ _ ?_
 unfold A9m
 refine Qp rs (by omega) hw1 (by omega) hn1 ?_
 intro h1 g1 o1 bo af c0 an t1
 refine ⟨_,_,_,rfl,t1.sep.call (B2l ⟨by omega,by omega⟩ ?_)⟩
 intro wd g2 l2 id h2 s2
 have one:((1:Int):Rat)=1:=rfl
 rw [one] at id
 refine ⟨_,_,_,_,_,_,_,_,rfl,fun L F=>∃ (c:Nat) (g o:aE) (rb:Nat->Nat) (A':Option aI) (cap':Nat) (wd:QV),c<=cols/\L= .slice A' (ecE M n c).cs.length cap'::I (c:Int)::qc wd/\h.le g/\Mt F g o bo rb n w (ecE M n c).R/\OwnSl o F9 A' cap' (zs (ecE M n c).cs)/\Sj bo rb n A'/\NQ g wd (ecE M n c).det,fun L _=>cols-(iAt L 1).toNat,
  ⟨0,g2,o1,af,none,0,wd,by omega,rfl,B0 an l2,t1.next s2 l2,(OwnSl.nil:OwnSl o1 F9 none 0 ([]:List Int)),⟨by simp,fun i hi=>by simp⟩,id⟩,?_⟩
 rintro X pn pc z d0 D q r d2 y u C F ⟨c,g,o,rb,A',cap',f,au,E,lg,t,ow,ap,iq⟩
 simp only [aX,bU,aT,true_and] at E
 obtain ⟨⟨rfl,rfl,rfl⟩,rfl,E⟩:=E
 obtain ⟨rfl,_⟩:=C1q (by simpa only [aX,bM,aT,and_true] using E:(.bool d0:bD) :: .slice D q r :: .bool d2 :: .slice y u C::[]= .bool f.s :: .slice f.A f.n f.c :: .bool f.s2 :: .slice f.A2 f.n2 f.c2::[])
 have ao:=A22 M n c
 have S:∀ (he:ecE M n cols=ecE M n c),Br (decide ((((ecE M n c).cs.length:Nat):Int)<(cols:Int))) (K (.tuple #[.slice (some ⟨bo,0,none⟩) n c0,.slice X (ecE M n c).cs.length pc,.agg #[.bool false,.slice none 0 0,.bool false,.slice none 0 0]]) F)
  (K (.tuple #[.slice (some ⟨bo,0,none⟩) n c0,.slice X (ecE M n c).cs.length pc,.agg #[.bool d0,.slice D q r,.bool d2,.slice y u C]]) F):=by
  intro he
  rw [<- he] at t ow iq ⊢
  refine B8 (fun Q=>?_) (fun aa=>?_)
  ·have e:B0l M n cols=0:=by unfold B0l;rw [iP (by omega)]
   exact hK F g o bo rb c0 X pc ⟨false,none,0,0,false,none,0,0⟩ lg t ow ap (by rw [e];exact NQ.zero)
  ·have e:B0l M n cols=(ecE M n cols).det:=by unfold B0l;rw [iN (by omega)]
   exact hK F g o bo rb c0 X pc ⟨d0,D,q,r,d2,y,u,C⟩ lg t ow ap (by rw [e];exact iq)
 refine B8 (fun Q=>?_) (fun aa=>S (by have:c=cols:=by omega
                                      rw [this]))
 have N:c<cols:=by omega
 have T:c<w:=by omega
 refine B8 (fun H=>?_) (fun H=>S (by
  have:=B2g (n:=n) (s:=⟨M,[],1⟩) (c:=c) (by show n<=(ecE M n c).cs.length;omega) (cols-c)
  rw [show c+(cols-c)=cols by omega] at this
  exact this))
 have G:(ecE M n c).cs.length<n:=by omega
 have al:=(SzE.run (n:=n) (w:=w) (m:=m) (s:=⟨M,[],1⟩) ⟨fun a b ha hb=>by show Sz (7^0*m) (M a b);rw [dC,aQ];exact hs a b ha hb,by show Sz (7^0*m) 1;rw [dC,aQ];exact Sz.int (z:=1) (ZB.one hm1) hm1,bY _⟩ hm1 c (by omega))
 have l:SzE n w m (ecE M n c):=al
 have d:ecE M n (c+1)=Ik n c (ecE M n c):=rfl
 have av:7^(ecE M n c).cs.length*m*7<=7^nq*m:=by
  have h1:7^(ecE M n c).cs.length*7<=7^nq:=by rw [<- dD];exact cG (by decide) (hnq c N)
  calc 7^(ecE M n c).cs.length*m*7=7^(ecE M n c).cs.length*7*m:=by rw [cI,bJ m 7,<- cI]
   _<=7^nq*m:=aF _ h1
 have ag:=A88 (ecE M n c).cs.length m hm1
 obtain ⟨r1,r2,r3,r4⟩:=B01 n c (ecE M n c) l.len
 have Z:B7 ((c:Int)+1)=((c+1:Nat):Int):=by rw [C1]<;>omega
 generalize hst:ecE M n c=st at *
 generalize hB:7^st.cs.length*m=B at *
 refine ⟨fun L V=>L=[I ((Gi n c st:Nat):Int)]/\V=F,⟨fun L V=>∃ k:Nat,st.cs.length<=k/\k<=Gi n c st/\L=[I (k:Int)]/\V=F,fun L _=>n-(iAt L 0).toNat,⟨st.cs.length,aG _,r1,rfl,rfl⟩,?_⟩,?_⟩
 ·rintro z V ⟨k,ak,aw,E,rfl⟩
  obtain rfl:=sI1 E
  refine B8 (fun Q=>?_) (fun aa=>⟨by have:k=Gi n c st:=by omega
                                     rw [this],rfl⟩)
  have O:k<n:=by omega
  obtain ⟨ch,ar,J⟩:=t.head O
  obtain ⟨x,ix,x0,x1,x2,x3⟩:=t.elem O T
  refine ⟨_,rfl,by omega,by omega,_,_,_,t.sep.cell J,_,rfl,by omega,by omega,_,_,_,_,_,_,_,_,t.sep.cell x0,t.sep.cell x1,t.sep.cell x2,t.sep.cell x3,?_⟩
  refine Q8 (ix.mono t.sep.le) ⟨_,rfl,D8 (fun e=>?_) (fun e=>?_)⟩
  ·have e0:st.R k c=0:=by rw [cV] at e;exact Rat.num_eq_zero.1 e
   have aq:k<Gi n c st:=by
    by_cases hx:k<Gi n c st
    ·exact hx
    ·exfalso
     have ac:k=Gi n c st:=by omega
     exact r3 (by omega) (by rw [<- ac];exact e0)
   rw [wiS k (by omega)]
   exact ⟨⟨k+1,by omega,by omega,rfl,rfl⟩,by simp only [U7];omega⟩
  ·have e0:st.R k c≠0:=fun h=>e (by rw [h];rfl)
   have:k=Gi n c st:=by
    by_cases hx:k<Gi n c st
    ·exact absurd (r4 k ak hx) e0
    ·omega
   exact ⟨by rw [this],rfl⟩
 rintro k1 V ⟨E,rfl⟩
 obtain rfl:k1=((Gi n c st:Nat):Int):=by simpa using E
 refine C6m (B:=B) (wd0:=⟨d0,D,q,r,d2,y,u,C⟩) rfl t ow ap iq G r2 T hn hw ag (by rw [<- hB];exact l.det) (fun a b ha hb=>by rw [<- hB];exact l.R a b ha hb) (by omega) (fun ax=>?_) (fun am=>?_)
 ·have p:Ik n c st={ st with det:=0 }:=by unfold Ik;rw [iP G,iN (by omega)]
  rw [Z]
  refine ⟨⟨c+1,g,o,rb,X,pc,⟨false,none,0,0,false,none,0,0⟩,by omega,?_,lg,?_⟩,?_⟩
  ·rw [d,p]
  ·rw [d,p];exact ⟨t,ow,ap,NQ.zero⟩
  ·show cols-((c+1:Nat):Int).toNat<cols-((c:Nat):Int).toNat
   omega
 ·intro h' g' o' ab A6 c6 aj ai t' ae ad ah
  have p:Ik n c st={ R:=elimE (fun i=>st.R (xch st.cs.length (Gi n c st) i)) st.cs.length c,cs:=st.cs++[c],det:=(if Gi n c st=st.cs.length then st.det else-st.det)*st.R (Gi n c st) c }:=by unfold Ik;rw [iP G,iP am]
  have W:(st.cs++[c]).length=st.cs.length+1:=by simp
  rw [Z]
  refine ⟨⟨c+1,g',o',ab,A6,c6,aj,by omega,?_,B0 lg ai,?_⟩,?_⟩
  ·rw [d,p,W]
  ·rw [d,p];exact ⟨t',ae,ad,ah⟩
  ·show cols-((c+1:Nat):Int).toNat<cols-((c:Nat):Int).toNat
   omega
def A1f{cols:Nat}(rs:RowsV h A n w M)(hn1:1<=n)(hn:n<=10000)(hw1:1<=w)(hw:w<=10000)(hc:cols<=w)(hm1:1<=m)(hs:∀ i j,i<n->j<w->Sz m (M i j))(hm:7^cols*m<=100000000)
 (hK:∀ h' g' o' bo rb c' A' cap' wd,h.le g'->Mt h' g' o' bo rb n w (ecE M n cols).R->OwnSl o' F9 A' cap' (zs (ecE M n cols).cs)->Sj bo rb n A'->NQ g' wd (B0l M n cols)->
  K (.tuple #[.slice (some ⟨bo,0,none⟩) n c',.slice A' (ecE M n cols).cs.length cap',wd.v]) h'):aV prog Kl #[.slice A n cap,I (cols:Int)] h K:=Xu rs hn1 hn hw1 hw hc hm1 hs (fun c a=>Nat.lt_of_le_of_lt (A22 M n c).1 a) hm hK
end
section
variable {h:aE} {K:VP} {A B:Option aI} {n m a b:Nat} {r c r2 c2:Int} {ls ls2:Nat->List UInt8}
def Vb{k:Int}(r:bV SSr h A n ls)(hn:n<=1000000000)(hK1:(∀ i,i<n->((ls i).length:Int)<=k)->K (.bool true) h)(hK0:¬ (∀ i,i<n->((ls i).length:Int)<=k)->K (.bool false) h):aV prog Tp #[I k,.slice A n a] h K:=by
 refine B62 _ _ _ _ ?_
 unfold C0u
 refine ⟨fun L d=>∃ i:Nat,i<=n/\L=[I (i:Int)]/\d=h/\∀ j,j<i->((ls j).length:Int)<=k,fun L _=>n-(iAt L 0).toNat,⟨0,by omega,rfl,rfl,fun j m=>by omega⟩,?_⟩
 rintro z d ⟨i,s,g,rfl,c⟩
 obtain rfl:=sI1 g
 refine B8 (fun f=>?_) (fun q=>?_)
 ·have b:i<n:=by omega
  obtain ⟨x,rfl,p⟩:=r.sat b
  refine ⟨x,rfl,by omega,by omega,_,p,?_⟩
  rw [L5]
  refine B8 (fun e=>hK0 fun o=>by have:=o i b;omega) (fun e=>?_)
  rw [wiS i (by omega)]
  refine ⟨⟨i+1,by omega,rfl,rfl,fun j m=>?_⟩,by simp only [U7];omega⟩
  by_cases l:j=i
  ·subst l;omega
  ·exact c j (by omega)
 ·have:i=n:=by omega
  subst this
  exact hK1 c
def Cg(x:bV SSr h A n ls)(y:bV SSr h B m ls2)(hn:n<=1000000000)(hK1:n=m->(∀ i,i<n->ls i=ls2 i)->K (.bool true) h)(hK0:¬ (n=m/\∀ i,i<n->ls i=ls2 i)->K (.bool false) h):aV prog Cv #[.slice A n a,.slice B m b] h K:=by
 refine A7o _ _ _ _ _ _ ?_
 unfold A9i
 refine F8 (fun e=>hK0 fun d=>e (by omega)) (fun e=>?_)
 have e:n=m:=by omega
 subst e
 refine ⟨fun L g=>∃ i:Nat,i<=n/\L=[I (i:Int)]/\g=h/\∀ j,j<i->ls j=ls2 j,fun L _=>n-(iAt L 0).toNat,⟨0,by omega,rfl,rfl,fun j q=>by omega⟩,?_⟩
 rintro z g ⟨i,t,o,rfl,f⟩
 obtain rfl:=sI1 o
 refine B8 (fun l=>?_) (fun s=>?_)
 ·have c:i<n:=by omega
  obtain ⟨u,rfl,r⟩:=x.sat c
  obtain ⟨v,rfl,k⟩:=y.sat c
  refine ⟨u,rfl,by omega,by omega,_,r,v,rfl,by omega,by omega,_,k,?_⟩
  rw [Lb]
  refine Br.not (B8 (fun e=>?_) (fun e=>hK0 fun d=>e (d.2 i c)))
  rw [wiS i (by omega)]
  refine ⟨⟨i+1,by omega,rfl,rfl,fun j q=>?_⟩,by simp only [U7];omega⟩
  by_cases p:j=i
  ·subst p;exact e
  ·exact f j (by omega)
 ·have:i=n:=by omega
  subst this
  exact hK1 rfl f
def Ky(x:bV SSr h A n ls)(y:bV SSr h B m ls2)(hn:n<=1000000000)(hK1:r=r2->c=c2->n=m->(∀ i,i<n->ls i=ls2 i)->K (.bool true) h)(hK0:¬ (r=r2/\c=c2/\n=m/\∀ i,i<n->ls i=ls2 i)->K (.bool false) h):aV prog He #[Dr r c A n a,Dr r2 c2 B m b] h K:=by
 refine A5g _ _ _ _ _ _ _ _ _ _ ?_
 unfold A5h
 refine D8 (fun f=>D8 (fun g=>?_) (fun e=>hK0 fun d=>e d.2.1)) (fun e=>hK0 fun d=>e d.1)
 exact Cg x y hn (fun j l=>⟨_,rfl,hK1 f g j l⟩) (fun d=>⟨_,rfl,hK0 fun k=>d k.2.2⟩)
structure Small (r c:Int) (n:Nat) (ls:Nat->List UInt8) (k d:Int):Prop where
 hr:r<=k
 hc:c<=k
 hn:(n:Int)<=k*k+2
 hl:∀ i,i<n->((ls i).length:Int)<=d
def A6o{k d:Int}(x:bV SSr h A n ls)(hk:0<=k/\k<=1000)(hK1:Small r c n ls k d->K (.bool true) h)(hK0:¬ Small r c n ls k d->K (.bool false) h):aV prog Em #[Dr r c A n a,I k,I d] h K:=by
 refine Xg _ _ _ _ _ _ _ ?_
 unfold Si
 have l:k*k<=1000*1000:=cU hk.2 hk.2 hk.1 (by omega)
 have f:0<=k*k:=cT hk.1 hk.1
 have g:B7 (k*k)=k*k:=C1 (by omega) (by omega)
 have i:B7 (k*k+2)=k*k+2:=C1 (by omega) (by omega)
 rw [g,i]
 refine B8 (fun j=>B8 (fun o=>B8 (fun m=>?_) (fun e=>hK0 fun x=>e x.hn)) (fun e=>hK0 fun x=>e x.hc)) (fun e=>hK0 fun x=>e x.hr)
 exact Vb x (by omega) (fun b=>⟨_,rfl,hK1 ⟨j,o,m,b⟩⟩) (fun b=>⟨_,rfl,hK0 fun y=>b y.hl⟩)
end
def B7y(ls:List (List UInt8)):(ls.flatMap fun l=>[cK (bs l)])=ls.map fun l=>cK (bs l):=by
 induction ls with
 | nil=>rfl
 | cons x l ih=>rw [List.flatMap_cons,ih];rfl
def Ip{h:aE}{A:Option aI}{ls:List (List UInt8)}(s:SlV h A (ls.map fun l=>cK (bs l))):bV SSr h A ls.length (fun i=>ls.getD i []):=by
 refine ⟨ls,?_,rfl,fun i a=>⟨ls[i],aH a,?_⟩⟩
 ·show SlV h A (ls.flatMap fun l=>[cK (bs l)])
  rw [B7y];exact s
 ·show ls[i]=ls.getD i []
  simp [a]
def A0p(l:List Rat):rvs (fun i=>(l.map K4).getD i [])=fun i=>l.getD i 0:=by
 funext i
 show rv ((l.map K4).getD i [])=_
 by_cases b:i<l.length
 ·rw [aK,aK,List.getElem?_map,aH b]
  exact In _
 ·rw [aK,aK,List.getElem?_map,List.getElem?_eq_none (by omega)]
  exact B9l (by rintro ⟨q,a⟩;exact absurd a.symm (by
   have:=B21 q
   obtain ⟨c,r,e,_⟩:=this
   rw [e];simp))
def C3l:K4 1=[49]:=by
 have:P0 1=[49]:=by decide +kernel
 simp [K4,Nl,this]
def C6v:K4 2=[50]:=by
 have:P0 2=[50]:=by decide +kernel
 have b:(2:Rat).den=1:=by decide +kernel
 have a:(2:Rat).num=2:=by decide +kernel
 simp [K4,Nl,this,b,a]
def C5y:K4 4=[52]:=by
 have:P0 4=[52]:=by decide +kernel
 have b:(4:Rat).den=1:=by decide +kernel
 have a:(4:Rat).num=4:=by decide +kernel
 simp [K4,Nl,this,b,a]
section
variable {h:aE} {K:VP} {A B:Option aI} {n cap m:Nat} {r c:Int} {ls:Nat->List UInt8}
def A8d{E:Nat->Rat}{rows cols:Nat}(hs:∀ i,i<rows*cols->Sz m (E i)):∀ i j,i<rows->j<cols->Sz m (mtx E cols i j):=fun _ _ a b=>hs _ (L8 a b)
end
section
variable {h:aE} {K:VP} {A:Option aI} {n cap m w:Nat} {r c:Int} {ls:Nat->List UInt8} {M:Nat->Nat->Rat}
end
section
variable {α β:Type} {R:aE->α->β->Prop} {g:aE}
def Row.app{xs ys:List α}{f:Nat->β}{p q:Nat}(hp:xs.length=p)(r:Row R g xs p f)(r2:Row R g ys q (fun j=>f (p+j))):Row R g (xs++ys) (p+q) f:=fun i b=>by
 by_cases h:i<p
 ·obtain ⟨w,e,x⟩:=r i h
  exact ⟨w,by rw [aM (by omega)];exact e,x⟩
 ·obtain ⟨w,e,x⟩:=r2 (i-p) (by omega)
  refine ⟨w,by rw [aR (by omega),hp];exact e,?_⟩
  have a:p+(i-p)=i:=by omega
  show R g w (f i)
  rw [<- a];exact x
end
section
variable {h:aE} {K:VP} {A:Option aI} {n cap m:Nat} {r c:Int} {ls:Nat->List UInt8}
def Ub{z:Int}(hz: -9223372036854775808<=z/\z<=9223372036854775807)(hK:∀ w h',h.le h'->RQ h' w (z:Rat)->K w.v h'):aV prog Ti #[I z] h K:=by
 refine B5a _ ?_
 unfold C0i
 exact Db hz.1 hz.2 fun a A1 b c1 h' l i=>⟨_,_,_,_,rfl,hK _ h' l (A85 i)⟩
end
end Go.Proofs.YtmbfcbbkbefgfaaGreatDoor
namespace Go.Proofs.YtmbfcbbkbefgfaaGreatDoor
set_option maxRecDepth 20000
def ldA(A:Nat->Nat->Rat):Nat->Nat->Nat->Rat
 | 0=>A
 | k+1=>fun i j=>if ldA A k k k=0 then ldA A k i j else ldA A k i j-ldA A k i k*(ldA A k k j/ldA A k k k)
def Pz(A:Nat->Nat->Rat)(n k:Nat):Prop:=0<=ldA A k k k/\(ldA A k k k=0->∀ i,k<i->i<n->ldA A k i k=0)
def ldL(A:Nat->Nat->Rat)(i k:Nat):Rat:=if i=k then 1 else if i<k then 0 else if ldA A k k k=0 then 0 else ldA A k i k/ldA A k k k
def ldD(A:Nat->Nat->Rat)(k:Nat):Rat:=ldA A k k k
def A5r(n:Nat)(A:Nat->Nat->Rat):Prop:=∀ i j,i<n->j<n->A i j=A j i
def B7s{A:Nat->Nat->Rat}{n:Nat}(hs:A5r n A):∀ k,k<=n->A5r n (ldA A k):=by
 intro k
 induction k with
 | zero=>exact fun _=>hs
 | succ k ih=>
  intro c i j a b
  have h:=ih (by omega)
  show (if ldA A k k k=0 then ldA A k i j else _)=(if ldA A k k k=0 then ldA A k j i else _)
  split
  ·exact h i j a b
  ·rw [h i j a b,h i k a (by omega),h k j (by omega) b]
   grind
def A8h{A:Nat->Nat->Rat}{n:Nat}(hs:A5r n A):∀ k,k<=n->(∀ m,m<k->Pz A n m)->∀ i j,i<n->j<n->i<k\/j<k->ldA A k i j=0:=by
 intro k
 induction k with
 | zero=>intro _ _ i j _ _ h;omega
 | succ k ih=>
  intro s f i j g d h
  have a:=ih (by omega) fun m t=>f m (by omega)
  have l:=B7s hs k (by omega)
  obtain ⟨_,r⟩:=f k (by omega)
  have row:ldA A k k k=0->∀ b,b<n->ldA A k k b=0:=fun e b q=>by
   rcases Nat.lt_trichotomy b k with c|c|c
   ·exact a k b (by omega) q (.inr c)
   ·rw [c];exact e
   ·rw [l k b (by omega) q];exact r e b c q
  show (if ldA A k k k=0 then ldA A k i j else _)=0
  by_cases e:ldA A k k k=0
  ·rw [iP e]
   by_cases c:i<k\/j<k
   ·exact a i j g d c
   ·by_cases p:i=k
    ·rw [p];exact row e j d
    ·have o:j=k:=by omega
     rw [l i j g d,o];exact row e i g
  ·rw [iN e]
   by_cases p:i=k
   ·rw [p];grind
   ·by_cases o:j=k
    ·rw [o];grind
    ·rw [a i j g d (by omega)]
     by_cases c:i<k
     ·rw [a i k g (by omega) (.inl c)];grind
     ·rw [a k j (by omega) d (.inr (by omega))];grind
structure LdR (n k:Nat) (A:Nat->Nat->Rat) (s:ES):Prop where
 len:s.cs.length<=k
 low:∀ i j,k<=i->i<n->j<n->s.R i j=ldA A k i j
 zero:∀ i j,s.cs.length<=i->i<k->j<n->s.R i j=0
def LdR.row{n k:Nat}{A:Nat->Nat->Rat}{s:ES}(h:LdR n k A s)(hk:k<n)(hne:ldA A k k k≠0):Gi n k s=k:=by
 have c:=h.len
 unfold Gi
 refine A8k _ c (by omega) (fun j a b=>?_) fun _=>?_
 ·rw [h.zero j k a b hk];decide
 ·rw [h.low k k (aG _) hk hk];exact decide_eq_true hne
def LdR.none{n k:Nat}{A:Nat->Nat->Rat}{s:ES}(h:LdR n k A s)(hk:k<n)(he:ldA A k k k=0)(hok:Pz A n k):Gi n k s=n:=by
 have d:=h.len
 unfold Gi
 refine A8k _ (by omega) (by omega) (fun j a b=>?_) fun c=>by omega
 by_cases c:j<k
 ·rw [h.zero j k a c hk];decide
 ·rw [h.low j k (by omega) b hk]
  by_cases e:j=k
  ·rw [e,he];decide
  ·rw [hok.2 he j (by omega) b];decide
def LdR.step{n k:Nat}{A:Nat->Nat->Rat}{s:ES}(hs:A5r n A)(hk:k<n)(hok:∀ m,m<=k->Pz A n m)(h:LdR n k A s):LdR n (k+1) A (Ik n k s):=by
 have y:=h.len
 have z:=A8h hs k (by omega) fun m u=>hok m (by omega)
 have r:=A8h hs (k+1) (by omega) fun m u=>hok m (by omega)
 unfold Ik
 rw [iP (show s.cs.length<n by omega)]
 by_cases e:ldA A k k k=0
 ·rw [h.none hk e (hok k (aG _)),iN (aU n)]
  refine ⟨by show s.cs.length<=k+1;omega,fun i j f d a=>?_,fun i j f g a=>?_⟩
  ·show s.R i j=(if ldA A k k k=0 then ldA A k i j else _)
   rw [iP e];exact h.low i j (by omega) d a
  ·show s.R i j=0
   by_cases c:i=k
   ·rw [c,h.low k j (aG _) hk a]
    have:=r k j hk a (.inl (by omega))
    rw [show ldA A (k+1) k j=(if ldA A k k k=0 then ldA A k k j else ldA A k k j-ldA A k k k*(ldA A k k j/ldA A k k k)) from rfl,iP e] at this
    exact this
   ·exact h.zero i j f (by omega) a
 ·rw [h.row hk e,iP hk]
  have w:(s.cs++[k]).length=s.cs.length+1:=by simp
  have q:=Ak s.cs.length k
  refine ⟨by show (s.cs++[k]).length<=k+1;omega,fun i j f d a=>?_,fun i j f g a=>?_⟩
  ·show elimE (fun i=>s.R (xch s.cs.length k i)) s.cs.length k i j=(if ldA A k k k=0 then ldA A k i j else _)
   have t:xch s.cs.length k i=i:=by unfold xch;rw [iN (by omega),iN (by omega)]
   unfold elimE
   rw [iN e,iN (by omega)]
   simp only [q,t]
   rw [h.low i k (by omega) d hk,h.low i j (by omega) d a,h.low k j (aG _) hk a,h.low k k (aG _) hk hk]
   split
   ·rename_i c
    rcases c with c|c
    ·rw [c];grind
    ·rw [z k j hk a (.inr c)];grind
   ·rfl
  ·show elimE (fun i=>s.R (xch s.cs.length k i)) s.cs.length k i j=0
   have p:(s.cs++[k]).length<=i:=f
   have l:∀ b,b<n->s.R (xch s.cs.length k i) b=0:=fun b o=>by
    unfold xch
    rw [iN (by omega)]
    split
    ·exact h.zero _ b (aG _) (by omega) o
    ·exact h.zero i b (by omega) (by omega) o
   unfold elimE
   rw [iN (by omega),iP (.inl (l k hk))]
   exact l j a
def LdR.run{n:Nat}{A:Nat->Nat->Rat}(hs:A5r n A):∀ k,k<=n->(∀ m,m<k->Pz A n m)->LdR n k A (B1o n ⟨A,[],1⟩ k):=by
 intro k
 induction k with
 | zero=>exact fun _ _=>⟨aG _,fun _ _ _ _ _=>rfl,fun i j _ h _=>by omega⟩
 | succ k ih=>exact fun c a=>LdR.step hs (by omega) (fun m b=>a m (by omega)) (ih (by omega) fun m b=>a m (by omega))
def qf(n:Nat)(A:Nat->Nat->Rat)(x:Nat->Rat):Rat:=sm n fun i=>x i*sm n fun j=>A i j*x j
def B3h{A:Nat->Nat->Rat}{i k:Nat}(h:i<k):ldL A i k=0:=by unfold ldL;rw [iN (by omega),iP h]
def B3g(A:Nat->Nat->Rat)(k:Nat):ldL A k k=1:=by unfold ldL;rw [iP rfl]
def B7l{n:Nat}{A B:Nat->Nat->Rat}{x y:Nat->Rat}(h:∀ i j,i<n->j<n->A i j=B i j)(hx:∀ i,i<n->x i=y i):qf n A x=qf n B y:=
 D0 fun i a=>by rw [hx i a,D0 fun j b=>by rw [h i j a b,hx j b]]
