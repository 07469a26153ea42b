/- A part. -/
import Derived.Test.YtmbfcbbkbefgfaaGreatDoorG27
import Derived.Test.YtmbfcbbkbefgfaaGreatDoorG28
open Go.Proofs.Tryz
set_option linter.all false
open _root_.Go.Addr renaming add->aC
open _root_.Go.Addr.mk renaming injEq->aP
open _root_.Go.Builtin renaming append_->aS
open _root_.Go.Instr renaming storeAt->aO,buildSlice->bC
open Int renaming toNat_natCast->aY,natCast_mul->bF,natAbs_natCast->cJ,gcd->cQ,sign_eq_zero_iff_zero->cT,mul_tdiv_cancel_left->cV,tdiv_eq_ediv_of_dvd->cX
open List renaming length_append->aD,getElem?_eq_getElem->aH,getD_eq_getElem?_getD->aK,getElem?_append_left->aM,getElem?_append_right->aR,getElem?_set_ne->bB,toArray->bK,getElem?_set_self->bL,eq_nil_of_length_eq_zero->bO,append_assoc->cL,take_append_of_le_length->cN,replicate->cR
open List.cons renaming injEq->aX
open Nat renaming mul_le_mul_right->aF,le_refl->aG,add_mul->aL,zero_add->aN,one_mul->aQ,lt_irrefl->aU,mul_comm->bJ,zero_le->bY,le_succ_of_le->bZ,add_zero->cF,pow_le_pow_right->cG,mul_le_mul->cH,mul_assoc->cI,div_eq_of_lt->cM,mul_add_div->cP,add_sub_cancel_left->cW,pow_zero->cZ,pow_succ->dB
open Option.some renaming injEq->aJ,inj->cO
open Rat renaming intCast_mul->aW,mul_zero->bH,add_zero->bI,divInt->bN,div_def->bW,divInt_eq_div->bX,mul_comm->cD,zero_mul->cY
open _root_.Go.Value renaming cells->bG,string->cK
open _root_.Go.Value.bool renaming injEq->bM
open _root_.Go.Value.int renaming injEq->bU
open _root_.Go.Value.slice renaming injEq->aT
open _root_.Go renaming Addr->aI,TypeId->aZ,Value->bD,Program->cC
open _root_.Go.Proofs.YtmbfcbbkbefgfaaGreatDoor renaming Heap->aE,FCall->aV,RowV->bV,IsNum->cU
namespace Go.Proofs.YtmbfcbbkbefgfaaGreatDoor
set_option maxRecDepth 20000
def sm:Nat->(Nat->Rat)->Rat
 | 0,_=>0
 | n+1,f=>sm n f+f n
def D0{n:Nat}{f g:Nat->Rat}(h:∀ i,i<n->f i=g i):sm n f=sm n g:=by
 induction n with
 | zero=>rfl
 | succ n ih=>rw [sm,sm,ih (fun i a=>h i (by omega)),h n (by omega)]
def Hv{n:Nat}{f:Nat->Rat}(h:∀ i,i<n->f i=0):sm n f=0:=by
 induction n with
 | zero=>rfl
 | succ n ih=>rw [sm,ih (fun i a=>h i (by omega)),h n (by omega)];exact bI 0
def Aw(n:Nat)(f g:Nat->Rat):sm n (fun i=>f i+g i)=sm n f+sm n g:=by
 induction n with
 | zero=>simp only [sm];exact (bI 0).symm
 | succ n ih=>simp only [sm];rw [ih];grind
def Ep(n:Nat)(a:Rat)(f:Nat->Rat):sm n (fun i=>a*f i)=a*sm n f:=by
 induction n with
 | zero=>simp only [sm];grind
 | succ n ih=>simp only [sm];rw [ih];grind
def Nj(n:Nat)(f:Nat->Rat):sm n (fun i=> - f i)= - sm n f:=by
 induction n with
 | zero=>simp only [sm];grind
 | succ n ih=>simp only [sm];rw [ih];grind
def A5s(n m:Nat)(f:Nat->Nat->Rat):sm n (fun i=>sm m (f i))=sm m (fun j=>sm n (fun i=>f i j)):=by
 induction n with
 | zero=>rw [sm];exact (Hv fun _ _=>rfl).symm
 | succ n ih=>simp only [sm];rw [ih,<- Aw]
def Ni{n k:Nat}(hk:k<n){f:Nat->Rat}(h:∀ i,i<n->i≠k->f i=0):sm n f=f k:=by
 induction n with
 | zero=>omega
 | succ n ih=>
  rw [sm]
  by_cases e:k=n
  ·subst e;rw [Hv fun i b=>h i (by omega) (by omega)];exact Rat.zero_add _
  ·rw [ih (by omega) fun i b a=>h i (by omega) a,h n (by omega) (by omega)];exact bI _
def rhx(l i:Nat):Nat:=if i<l then i else i+1
def B27(l i:Nat):rhx l i≠l:=by unfold rhx;split<;>omega
def A3c{l i k:Nat}(hi:i<k):rhx l i<k+1:=by unfold rhx;split<;>omega
def B94{k a:Nat}(ha:a<=k)(t:Nat->Rat):sm k (fun i=>t (rhx a i))=sm (k+1) (fun b=>if b=a then 0 else t b):=by
 induction k generalizing a with
 | zero=>
  show (0:Rat)=0+(if 0=a then 0 else t 0)
  rw [iP (by omega)];exact (bI 0).symm
 | succ k ih=>
  show sm k (fun i=>t (rhx a i))+t (rhx a k)=sm (k+1) (fun b=>if b=a then 0 else t b)+(if k+1=a then 0 else t (k+1))
  by_cases e:a=k+1
  ·rw [iP e.symm,bI]
   show sm k (fun i=>t (rhx a i))+t (rhx a k)=sm k (fun b=>if b=a then 0 else t b)+(if k=a then 0 else t k)
   rw [iN (by omega)]
   congr 1
   ·exact D0 fun i c=>by rw [rhx,iP (by omega),iN (by omega)]
   ·rw [rhx,iP (by omega)]
  ·rw [ih (by omega),iN (fun x=>e x.symm)]
   congr 1
   rw [rhx,iN (by omega)]
def sg(n:Nat):Rat:=if n%2=0 then 1 else -1
def dt:Nat->(Nat->Nat->Rat)->Rat
 | 0,_=>1
 | k+1,X=>sm (k+1) fun l=>sg (k+l)*X k l*dt k (fun c r=>X c (rhx l r))
def Q9{k:Nat}: ∀ {X Y:Nat->Nat->Rat},(∀ c r,c<k->r<k->X c r=Y c r)->dt k X=dt k Y:=by
 induction k with
 | zero=>intros;rfl
 | succ k ih=>
  intro X Y h
  rw [dt,dt]
  refine D0 fun l a=>?_
  rw [h k l (by omega) a,ih fun c r d b=>h c (rhx l r) (by omega) (A3c b)]
def rc(X:Nat->Nat->Rat)(m:Nat)(y:Nat->Rat):Nat->Nat->Rat:=fun c r=>if c=m then y r else X c r
def Fw(X:Nat->Nat->Rat)(m:Nat)(y:Nat->Rat)(l:Nat):(fun c r=>rc X m y c (rhx l r))=rc (fun c r=>X c (rhx l r)) m (fun r=>y (rhx l r)):=by
 funext c r;unfold rc;split<;>rfl
def A44{k:Nat}: ∀ (X:Nat->Nat->Rat) {m:Nat} (_:m<k) (y z:Nat->Rat),dt k (rc X m fun r=>y r+z r)=dt k (rc X m y)+dt k (rc X m z):=by
 induction k with
 | zero=>intros;omega
 | succ k ih=>
  intro X m d y z
  rw [dt,dt,dt,<- Aw]
  refine D0 fun l a=>?_
  by_cases e:m=k
  ·subst e
   have:∀ u:Nat->Rat,dt m (fun c r=>rc X m u c (rhx l r))=dt m (fun c r=>X c (rhx l r)):=fun u=>Q9 fun c r b _=>by rw [rc,iN (by omega)]
   rw [this,this,this]
   simp only [rc,if_true]
   grind
  ·rw [Fw,Fw,Fw,ih _ (by omega)]
   simp only [rc,iN (fun x:k=m=>e x.symm)]
   grind
def B41{k:Nat}: ∀ (X:Nat->Nat->Rat) {m:Nat} (_:m<k) (a:Rat) (y:Nat->Rat),dt k (rc X m fun r=>a*y r)=a*dt k (rc X m y):=by
 induction k with
 | zero=>intros;omega
 | succ k ih=>
  intro X m f a y
  rw [dt,dt,<- Ep]
  refine D0 fun l b=>?_
  by_cases e:m=k
  ·subst e
   have:∀ u:Nat->Rat,dt m (fun c r=>rc X m u c (rhx l r))=dt m (fun c r=>X c (rhx l r)):=fun u=>Q9 fun c r d _=>by rw [rc,iN (by omega)]
   rw [this,this]
   simp only [rc,if_true]
   grind
  ·rw [Fw,Fw,ih _ (by omega)]
   simp only [rc,iN (fun x:k=m=>e x.symm)]
   grind
def C1s{k:Nat}(X:Nat->Nat->Rat){m:Nat}(hm:m<k):dt k (rc X m fun _=>0)=0:=by
 have:=B41 X hm 0 (fun _=>0)
 rw [cY] at this
 simpa only [cY] using this
def B9q{k:Nat}(X:Nat->Nat->Rat){m:Nat}(hm:m<k)(a:Nat->Rat)(Y:Nat->Nat->Rat):∀ n,dt k (rc X m fun r=>sm n fun t=>a t*Y t r)=sm n fun t=>a t*dt k (rc X m (Y t)):=by
 intro n
 induction n with
 | zero=>exact C1s X hm
 | succ n ih=>
  simp only [sm]
  rw [A44 X hm,ih,B41 X hm]
def A62(X:Nat->Nat->Rat)(m:Nat):rc X m (X m)=X:=by
 funext c r;unfold rc;split
 ·rename_i e;rw [e]
 ·rfl
def A8k{k:Nat}(X:Nat->Nat->Rat)(h:∀ r,r<k+2->X k r=X (k+1) r):dt (k+2) X=0:=by
 let mn:Nat->Nat->Rat:=fun a b=>dt k (fun c r=>X c (if a<b then rhx a (rhx (b-1) r) else rhx b (rhx (a-1) r)))
 let G:Nat->Nat->Rat:=fun a b=>if a=b then 0 else if b<a then sg (a+b)*X (k+1) a*X (k+1) b*mn a b else-(sg (a+b)*X (k+1) a*X (k+1) b*mn a b)
 have m:∀ a b,mn a b=mn b a:=by
  intro a b
  show dt k _=dt k _
  refine Q9 fun c r _ _=>?_
  by_cases d:a<b
  ·rw [iP d,iN (by omega)]
  ·by_cases n:b<a
   ·rw [iN d,iP n]
   ·have:a=b:=by omega
    subst this;rfl
 have o:∀ a b,G b a= - G a b:=by
  intro a b
  show (if b=a then 0 else if a<b then _ else _)= - (if a=b then 0 else if b<a then _ else _)
  by_cases e:a=b
  ·rw [iP e,iP e.symm];grind
  ·rw [iN e,iN (fun x=>e x.symm)]
   have t:=m a b
   by_cases d:a<b
   ·rw [iP d,iN (by omega),Nat.add_comm b a];grind
   ·rw [iN d,iP (by omega),Nat.add_comm b a];grind
 have f:dt (k+2) X=sm (k+2) fun a=>sm (k+2) fun b=>G a b*sg (k+1+k):=by
  rw [dt]
  refine D0 fun a w=>?_
  have s:(fun b=>G a b*sg (k+1+k))=(fun b=>if b=a then 0 else (fun b=>G a b*sg (k+1+k)) b):=by
   funext b
   by_cases e:b=a
   ·subst e;rw [iP rfl];show (if b=b then 0 else _)*_=_;rw [iP rfl];grind
   ·rw [iN e]
  rw [s,<- B94 (by omega) (fun b=>G a b*sg (k+1+k)),dt,<- Ep]
  refine D0 fun i p=>?_
  have l:X k (rhx a i)=X (k+1) (rhx a i):=h _ (A3c p)
  have j:dt k (fun c r=>X c (rhx a (rhx i r)))=mn a (rhx a i):=by
   show _=dt k _
   refine Q9 fun c r _ _=>?_
   by_cases d:i<a
   ·have g:rhx a i=i:=by rw [rhx,iP d]
    rw [g,iN (by omega)]
    congr 1
    simp only [rhx]
    repeat' split
    all_goals omega
   ·have g:rhx a i=i+1:=by rw [rhx,iN d]
    rw [g,iP (by omega),Nat.add_sub_cancel]
  rw [l,j]
  show _=(if a=rhx a i then 0 else if rhx a i<a then _ else _)*_
  rw [iN (fun e=>B27 a i e.symm)]
  have u:∀ x y:Nat,x%2=y%2->sg x=sg y:=fun x y e=>by unfold sg;rw [e]
  by_cases d:i<a
  ·have g:rhx a i=i:=by rw [rhx,iP d]
   rw [g,iP d]
   have q:sg (k+1+a)*sg (k+i)=sg (a+i)*sg (k+1+k):=by
    unfold sg
    repeat' split
    all_goals first|omega|grind
   grind
  ·have g:rhx a i=i+1:=by rw [rhx,iN d]
   rw [g,iN (by omega)]
   have q:sg (k+1+a)*sg (k+i)= - sg (a+(i+1))*sg (k+1+k):=by
    unfold sg
    repeat' split
    all_goals first|omega|grind
   grind
 have n:dt (k+2) X= - dt (k+2) X:=by
  have:dt (k+2) X=sm (k+2) fun a=>sm (k+2) fun b=>G b a*sg (k+1+k):=by
   rw [f];exact A5s _ _ _
  refine this.trans ?_
  rw [f,<- Nj]
  refine D0 fun a _=>?_
  rw [<- Nj]
  exact D0 fun b _=>by rw [o];grind
 grind
def C1u:∀ {k:Nat} (X:Nat->Nat->Rat) {p q:Nat} (_:p<q) (_:q<k) (_:∀ r,r<k->X p r=X q r),dt k X=0:=by
 intro k
 induction k with
 | zero=>intros;omega
 | succ k ih=>
  intro X p q g A h
  by_cases e:q=k
  ·subst e
   by_cases n:p+1=q
   ·subst n
    exact A8k X h
   ·
    obtain ⟨k',rfl⟩:∃ k',q=k'+1:=⟨q-1,by omega⟩
    have o:p<k':=by omega
    have swap:∀ (Z:Nat->Nat->Rat),dt (k'+1) (rc (rc Z p (Z k')) k' (Z p))= - dt (k'+1) Z:=by
     intro Z
     have i:∀ y:Nat->Rat,dt (k'+1) (rc (rc Z p y) k' y)=0:=fun y=>ih _ o (by omega) fun r _=>by
      unfold rc;rw [iN (by omega),iP rfl,iP rfl]
     have comm:∀ y z:Nat->Rat,rc (rc Z p y) k' z=rc (rc Z k' z) p y:=by
      intro y z;funext c r;unfold rc
      by_cases d:c=k'
      ·by_cases a:c=p
       ·omega
       ·rw [iP d,iN a,iP d]
      ·by_cases a:c=p
       ·rw [iN d,iP a,iP a]
       ·rw [iN d,iN a,iN a,iN d]
     have b:=i (fun r=>Z p r+Z k' r)
     rw [A44 _ (by omega)] at b
     rw [comm _ (Z p),comm _ (Z k'),A44 _ (by omega),A44 _ (by omega)] at b
     rw [<- comm,<- comm,<- comm,<- comm] at b
     rw [i (Z p),i (Z k')] at b
     have s:rc (rc Z p (Z p)) k' (Z k')=Z:=by rw [A62,A62]
     rw [s] at b
     grind
    have u:dt (k'+1+1) X= - dt (k'+1+1) (rc (rc X p (X k')) k' (X p)):=by
     rw [dt,dt,<- Nj]
     refine D0 fun l _=>?_
     have m:rc (rc X p (X k')) k' (X p) (k'+1) l=X (k'+1) l:=by unfold rc;rw [iN (by omega),iN (by omega)]
     have w:(fun c r=>rc (rc X p (X k')) k' (X p) c (rhx l r))=rc (rc (fun c r=>X c (rhx l r)) p (fun r=>X k' (rhx l r))) k' (fun r=>X p (rhx l r)):=by
      rw [Fw,Fw]
     have:=swap (fun c r=>X c (rhx l r))
     rw [m,w,this]
     grind
    rw [u,A8k _ fun r f=>?_]
    ·grind
    ·have t:rc (rc X p (X k')) k' (X p) k' r=X p r:=by unfold rc;rw [iP rfl]
     have j:rc (rc X p (X k')) k' (X p) (k'+1) r=X (k'+1) r:=by unfold rc;rw [iN (by omega),iN (by omega)]
     rw [t,j];exact h r f
  ·rw [dt]
   refine Hv fun l _=>?_
   rw [ih _ g (by omega) fun r f=>h (rhx l r) (A3c f)]
   grind
def C1t{k:Nat}(X:Nat->Nat->Rat)(h:∀ r,r<k->X k r=0):dt (k+1) X=X k k*dt k X:=by
 rw [dt,Ni (k:=k) (by omega) fun i e d=>by rw [h i (by omega)];grind]
 have:dt k (fun c r=>X c (rhx k r))=dt k X:=Q9 fun c r _ a=>by rw [rhx,iP a]
 have b:sg (k+k)=1:=by unfold sg;rw [iP (by omega)]
 rw [this,b,Rat.one_mul]
def Wh(q:Rat):Prop:=∃ z:Int,q=(z:Rat)
def Wh.add{p q:Rat}(hp:Wh p)(hq:Wh q):Wh (p+q):=by
 obtain ⟨a,rfl⟩:=hp;obtain ⟨b,rfl⟩:=hq
 exact ⟨a+b,by rw [Rat.intCast_add]⟩
def Wh.mul{p q:Rat}(hp:Wh p)(hq:Wh q):Wh (p*q):=by
 obtain ⟨a,rfl⟩:=hp;obtain ⟨b,rfl⟩:=hq
 exact ⟨a*b,by rw [aW]⟩
def Wh.sg(n:Nat):Wh (sg n):=by
 unfold Go.Proofs.YtmbfcbbkbefgfaaGreatDoor.sg
 split
 ·exact ⟨1,rfl⟩
 ·exact ⟨-1,by decide +kernel⟩
def Wh.sm{n:Nat}{f:Nat->Rat}(h:∀ i,i<n->Wh (f i)):Wh (sm n f):=by
 induction n with
 | zero=>exact ⟨0,rfl⟩
 | succ n ih=>exact (ih fun i a=>h i (by omega)).add (h n (by omega))
def C3v{k:Nat}: ∀ {X:Nat->Nat->Rat},(∀ c r,c<k->r<k->Wh (X c r))->Wh (dt k X):=by
 induction k with
 | zero=>intro X _;exact ⟨1,rfl⟩
 | succ k ih=>
  intro X h
  rw [dt]
  refine Wh.sm fun l a=>?_
  exact ((Wh.sg _).mul (h k l (by omega) a)).mul (ih fun c r d b=>h c _ (by omega) (A3c b))
structure Elim (n w:Nat) (B R:Nat->Nat->Rat) (cs:Nat->Nat) (k:Nat):Prop where
 kn:k<=n
 cw:∀ m,m<k->cs m<w
 piv:∀ l m,l<k->m<k->R l (cs m)=if l=m then 1 else 0
 low:∀ i m,i<n->k<=i->m<k->R i (cs m)=0
 top:∀ l j,l<k->j<w->B l j=sm k fun m=>B l (cs m)*R m j
 bot:∀ i j,i<n->k<=i->j<w->B i j=R i j+sm k fun m=>B i (cs m)*R m j
def dp(B:Nat->Nat->Rat)(cs:Nat->Nat)(k:Nat):Rat:=dt k fun c r=>B r (cs c)
section
variable {n w:Nat} {B R:Nat->Nat->Rat} {cs:Nat->Nat} {k:Nat}
def Elim.below(E:Elim n w B R cs k){i j:Nat}(hi:i<n)(hk:k<=i)(hj:j<w):dp B cs k*R i j=dt (k+1) fun c r=>B (if r<k then r else i) (if c<k then cs c else j):=by
 have d:(fun c r=>B (if r<k then r else i) (if c<k then cs c else j))=rc (fun c r=>B (if r<k then r else i) (cs c)) k (fun r=>B (if r<k then r else i) j)\/True:=.inr trivial
 clear d
 let X:Nat->Nat->Rat:=fun c r=>B (if r<k then r else i) (cs c)
 have l:dt (k+1) (fun c r=>B (if r<k then r else i) (if c<k then cs c else j))=dt (k+1) (rc X k fun r=>(sm k fun t=>R t j*X t r)+(if r<k then 0 else R i j)):=by
  refine Q9 fun c r f b=>?_
  unfold rc
  by_cases h:c=k
  ·subst h
   rw [iN (aU c),iP rfl]
   show _=(sm c fun t=>R t j*X t r)+(if r<c then 0 else R i j)
   by_cases a:r<c
   ·rw [iP a,iP a,bI,E.top r j a hj]
    refine D0 fun m _=>?_
    show _=_*B (if r<c then r else i) (cs m)
    rw [iP a,cD]
   ·rw [iN a,iN a,E.bot i j hi hk hj,Rat.add_comm]
    congr 1
    refine D0 fun m _=>?_
    show _=_*B (if r<c then r else i) (cs m)
    rw [iN a,cD]
  ·rw [iN h,iP (show c<k by omega)]
 rw [l,A44 _ (by omega),B9q X (by omega) (fun t=>R t j) X]
 rw [Hv fun t g=>by
  rw [C1u (rc X k (X t)) (p:=t) (q:=k) g (by omega) fun r _=>by unfold rc;rw [iN (by omega),iP rfl]]
  exact bH _]
 rw [C1t _ fun r b=>by unfold rc;rw [iP rfl];show (if r<k then 0 else R i j)=0;rw [iP b]]
 have e:dt k (rc X k fun r=>if r<k then 0 else R i j)=dp B cs k:=by
  refine Q9 fun c r f b=>?_
  unfold rc
  rw [iN (by omega)]
  show B (if r<k then r else i) (cs c)=_
  rw [iP b]
 rw [e]
 unfold rc
 rw [iP rfl]
 show _=0+(if k<k then 0 else R i j)*_
 rw [iN (aU k)]
 grind
def Elim.above(E:Elim n w B R cs k){i j:Nat}(hi:i<k)(hj:j<w):dp B cs k*R i j=dt k (rc (fun c r=>B r (cs c)) i fun r=>B r j):=by
 let X:Nat->Nat->Rat:=fun c r=>B r (cs c)
 have d:dt k (rc X i fun r=>B r j)=dt k (rc X i fun r=>sm k fun t=>R t j*X t r):=by
  refine Q9 fun c r f a=>?_
  unfold rc
  split
  ·show B r j=sm k fun t=>R t j*X t r
   rw [E.top r j a hj]
   exact D0 fun m _=>cD _ _
  ·rfl
 show _=dt k (rc X i fun r=>B r j)
 rw [d,B9q X hi (fun t=>R t j) X,Ni (k:=i) hi fun t b e=>?_]
 ·rw [A62,cD];rfl
 ·rcases Nat.lt_or_ge t i with h|h
  ·rw [C1u (rc X i (X t)) (p:=t) (q:=i) h hi fun r _=>by unfold rc;rw [iN (by omega),iP rfl]]
   exact bH _
  ·rw [C1u (rc X i (X t)) (p:=i) (q:=t) (by omega) b fun r _=>by unfold rc;rw [iP rfl,iN (by omega)]]
   exact bH _
def Elim.whole(E:Elim n w B R cs k)(hB:∀ i j,i<n->j<w->Wh (B i j)){i j:Nat}(hi:i<n)(hj:j<w):Wh (dp B cs k*R i j):=by
 by_cases h:i<k
 ·rw [E.above h hj]
  refine C3v fun c r a b=>?_
  have:=E.kn
  unfold rc
  split
  ·exact hB r j (by omega) hj
  ·exact hB r _ (by omega) (E.cw c a)
 ·rw [E.below hi (by omega) hj]
  refine C3v fun c r a b=>?_
  refine hB _ _ ?_ ?_
  ·split<;>omega
  ·split
   ·exact E.cw c (by assumption)
   ·exact hj
def Elim.next(E:Elim n w B R cs k){j:Nat}(hk:k<n)(hj:j<w)(hc:cs k=j):dp B cs (k+1)=dp B cs k*R k j:=by
 rw [E.below hk (aG _) hj]
 refine Q9 fun c r a e=>?_
 have d:(if r<k then r else k)=r:=by split<;>omega
 have b:(if c<k then cs c else j)=cs c:=by
  split
  ·rfl
  ·have:c=k:=by omega
   rw [this,hc]
 rw [d,b]
def Dg(R:Nat->Nat->Rat)(k j:Nat):Nat->Nat->Rat:=fun a b=>if a=k then R k b/R k j else R a b-R a j*(R k b/R k j)
def Elim.step(E:Elim n w B R cs k){j:Nat}(hk:k<n)(hj:j<w)(hc:cs k=j)(hne:R k j≠0):Elim n w B (Dg R k j) cs (k+1):=by
 have d:∀ m,m<k->R k (cs m)=0:=fun m o=>E.low k m hk (aG _) o
 have f:R k j/R k j=1:=by grind
 refine ⟨by omega,fun m o=>?_,fun l m A o=>?_,fun i m q u o=>?_,fun l b A p=>?_,fun i b q u p=>?_⟩
 ·by_cases e:m=k
  ·rw [e,hc];exact hj
  ·exact E.cw m (by omega)
 ·unfold Dg
  by_cases s:m=k
  ·subst s
   rw [hc]
   by_cases c:l=m
   ·rw [iP c,iP c];exact f
   ·rw [iN c,iN c,f];grind
  ·have a:m<k:=by omega
   rw [d m a]
   by_cases c:l=k
   ·subst c
    rw [iP rfl,iN (by omega)];grind
   ·rw [iN c,E.piv l m (by omega) a]
    grind
 ·unfold Dg
  rw [iN (by omega)]
  by_cases s:m=k
  ·subst s
   rw [hc,f];grind
  ·have a:m<k:=by omega
   rw [d m a,E.low i m q (by omega) a]
   grind
 ·rw [sm]
  have t:(Dg R k j) k b=R k b/R k j:=by unfold Dg;rw [iP rfl]
  have r:sm k (fun m=>B l (cs m)*Dg R k j m b)=sm k (fun m=>B l (cs m)*R m b)-sm k (fun m=>B l (cs m)*R m j)*(R k b/R k j):=by
   have:(fun m=>B l (cs m)*Dg R k j m b)=fun m=>if m=k then B l (cs k)*(R k b/R k j) else B l (cs m)*R m b+(-(R k b/R k j))*(B l (cs m)*R m j):=by
    funext m
    unfold Dg
    by_cases e:m=k
    ·rw [iP e,iP e,e]
    ·rw [iN e,iN e];grind
   rw [this,D0 (g:=fun m=>B l (cs m)*R m b+(-(R k b/R k j))*(B l (cs m)*R m j)) fun m o=>by rw [iN (by omega)]]
   rw [Aw,Ep];grind
  rw [t,r,hc]
  by_cases c:l=k
  ·subst c
   have t1:=E.bot l b hk (aG _) p
   have y:=E.bot l j hk (aG _) hj
   grind
  ·have t1:=E.top l b (by omega) p
   have y:=E.top l j (by omega) hj
   grind
 ·rw [sm]
  have t:(Dg R k j) k b=R k b/R k j:=by unfold Dg;rw [iP rfl]
  have r:sm k (fun m=>B i (cs m)*Dg R k j m b)=sm k (fun m=>B i (cs m)*R m b)-sm k (fun m=>B i (cs m)*R m j)*(R k b/R k j):=by
   have:(fun m=>B i (cs m)*Dg R k j m b)=fun m=>if m=k then B i (cs k)*(R k b/R k j) else B i (cs m)*R m b+(-(R k b/R k j))*(B i (cs m)*R m j):=by
    funext m
    unfold Dg
    by_cases e:m=k
    ·rw [iP e,iP e,e]
    ·rw [iN e,iN e];grind
   rw [this,D0 (g:=fun m=>B i (cs m)*R m b+(-(R k b/R k j))*(B i (cs m)*R m j)) fun m o=>by rw [iN (by omega)]]
   rw [Aw,Ep];grind
  have z:Dg R k j i b=R i b-R i j*(R k b/R k j):=by unfold Dg;rw [iN (by omega)]
  have t1:=E.bot i b q (by omega) p
  have y:=E.bot i j q (by omega) hj
  rw [t,r,z,hc]
  grind
def xch(k l:Nat)(i:Nat):Nat:=if i=k then l else if i=l then k else i
def Elim.swap(E:Elim n w B R cs k){l:Nat}(hk:k<=l)(hl:l<n):Elim n w (fun i=>B (xch k l i)) (fun i=>R (xch k l i)) cs k:=by
 have e:∀ i,i<k->xch k l i=i:=fun i f=>by unfold xch;rw [iN (by omega),iN (by omega)]
 have o:∀ i,i<n->k<=i->xch k l i<n/\k<=xch k l i:=fun i p q=>by unfold xch;split<;>(try split)<;>omega
 refine ⟨E.kn,E.cw,fun a m d b=>?_,fun i m f c b=>?_,fun a j d g=>?_,fun i j f c g=>?_⟩
 ·show R (xch k l a) _=_
  rw [e a d];exact E.piv a m d b
 ·have:=o i f c
  exact E.low _ m this.1 this.2 b
 ·show B (xch k l a) j=sm k fun m=>B (xch k l a) (cs m)*R (xch k l m) j
  rw [e a d,E.top a j d g]
  exact D0 fun m b=>by rw [e m b]
 ·have:=o i f c
  show B (xch k l i) j=R (xch k l i) j+sm k fun m=>B (xch k l i) (cs m)*R (xch k l m) j
  rw [E.bot _ j this.1 this.2 g]
  congr 1
  exact D0 fun m b=>by rw [e m b]
def C1v(B:Nat->Nat->Rat)(cs:Nat->Nat){k l:Nat}(hk:k<=l):dp (fun i=>B (xch k l i)) cs k=dp B cs k:=by
 refine Q9 fun c r _ a=>?_
 show B (xch k l r) _=_
 unfold xch;rw [iN (by omega),iN (by omega)]
def Elim.start:Elim n w B B cs 0:=by
 refine ⟨bY _,fun m b=>by omega,fun l m a=>by omega,fun i m _ _ b=>by omega,fun l j a=>by omega,fun i j _ _ _=>by rw [sm,bI]⟩
def Elim.cs_congr{cs':Nat->Nat}(E:Elim n w B R cs k)(h:∀ m,m<k->cs m=cs' m):Elim n w B R cs' k:=by
 refine ⟨E.kn,fun m a=>by rw [<- h m a];exact E.cw m a,fun l m b a=>by rw [<- h m a];exact E.piv l m b a,fun i m c e a=>by rw [<- h m a];exact E.low i m c e a,fun l j b d=>?_,fun i j c e d=>?_⟩
 ·rw [E.top l j b d];exact D0 fun m a=>by rw [h m a]
 ·rw [E.bot i j c e d];congr 1;exact D0 fun m a=>by rw [h m a]
def B7s{cs':Nat->Nat}(h:∀ m,m<k->cs m=cs' m):dp B cs k=dp B cs' k:=Q9 fun c r a _=>by rw [h c a]
end
end Go.Proofs.YtmbfcbbkbefgfaaGreatDoor
namespace Go.Proofs.YtmbfcbbkbefgfaaGreatDoor
set_option maxRecDepth 20000
def fnd(p:Nat->Bool):Nat->Nat->Nat
 | 0,i=>i
 | f+1,i=>bif p i then i else fnd p f (i+1)
def A3y(p:Nat->Bool):∀ f i,i<=fnd p f i/\fnd p f i<=i+f:=by
 intro f
 induction f with
 | zero=>intro i;simp [fnd]
 | succ f ih=>
  intro i
  unfold fnd
  cases p i with
  | true=>simp
  | false=>have:=ih (i+1);simp only [cond_false];omega
def A0x(p:Nat->Bool):∀ f i,fnd p f i<i+f->p (fnd p f i)=true:=by
 intro f
 induction f with
 | zero=>intro i h;simp [fnd] at h
 | succ f ih=>
  intro i h
  unfold fnd at h ⊢
  cases hp:p i with
  | true=>simp only [hp,cond_true]
  | false=>simp only [hp,cond_false] at h ⊢;exact ih (i+1) (by omega)
def A0w(p:Nat->Bool):∀ f i j,i<=j->j<fnd p f i->p j=false:=by
 intro f
 induction f with
 | zero=>intro i j b a;simp [fnd] at a;omega
 | succ f ih=>
  intro i j b a
  unfold fnd at a
  cases hp:p i with
  | true=>simp only [hp,cond_true] at a;omega
  | false=>
   simp only [hp,cond_false] at a
   by_cases e:j=i
   ·rw [e];exact hp
   ·exact ih (i+1) j (by omega) a
def B3g{p q:Nat->Bool}: ∀ f i,(∀ j,i<=j->j<i+f->p j=q j)->fnd p f i=fnd q f i:=by
 intro f
 induction f with
 | zero=>intros;rfl
 | succ f ih=>
  intro i h
  unfold fnd
  rw [h i (by omega) (by omega),ih (i+1) fun j a b=>h j (by omega) (by omega)]
def A86(p:Nat->Bool){f i k:Nat}(h1:i<=k)(h2:k<=i+f)(h3:∀ j,i<=j->j<k->p j=false)(h4:k<i+f->p k=true):fnd p f i=k:=by
 have a:=A3y p f i
 rcases Nat.lt_trichotomy (fnd p f i) k with h|h|h
 ·have:=A0x p f i (by omega);rw [h3 _ a.1 h] at this;cases this
 ·exact h
 ·have:=A0w p f i k h1 h;rw [h4 (by omega)] at this;cases this
structure ES where
 R:Nat->Nat->Rat
 cs:List Nat
 det:Rat
def elimE(R:Nat->Nat->Rat)(k j:Nat):Nat->Nat->Rat:=fun a b=>if a=k then R k b/R k j else if R a j=0\/b<j then R a b else R a b-R a j*(R k b/R k j)
def Fv(n c:Nat)(s:ES):Nat:=fnd (fun i=>decide (s.R i c≠0)) (n-s.cs.length) s.cs.length
def Hu(n c:Nat)(s:ES):ES:=
 if s.cs.length<n then
  if Fv n c s<n then
   { R:=elimE (fun i=>s.R (xch s.cs.length (Fv n c s) i)) s.cs.length c
     cs:=s.cs++[c]
     det:=(if Fv n c s=s.cs.length then s.det else-s.det)*s.R (Fv n c s) c }
  else { s with det:=0 }
 else s
def B1b(n:Nat)(s:ES):Nat->ES
 | 0=>s
 | c+1=>Hu n c (B1b n s c)
structure PS where
 M:Nat->Nat->Int
 S:Nat->Rat
 cs:List Nat
 last:Int
 sgn:Int
def clr(M:Nat->Nat->Int)(r c:Nat)(d:Int):Nat->Nat->Int:=fun a b=>if a=r then M r b else (M r c*M a b-M a c*M r b).tdiv d
def Sj(n c:Nat)(s:PS):Nat:=fnd (fun i=>decide (s.M i c≠0)) (n-s.cs.length) s.cs.length
def Dz(n c:Nat)(s:PS):PS:=
 if Sj n c s<n then
  { M:=clr (fun i=>s.M (xch s.cs.length (Sj n c s) i)) s.cs.length c s.last
    S:=fun i=>s.S (xch s.cs.length (Sj n c s) i)
    cs:=s.cs++[c]
    last:=s.M (Sj n c s) c
    sgn:=if Sj n c s=s.cs.length then s.sgn else-s.sgn }
 else s
def Da(n:Nat)(s:PS):Nat->PS
 | 0=>s
 | c+1=>Dz n c (Da n s c)
def pr:Nat->(Nat->Rat)->Rat
 | 0,_=>1
 | n+1,f=>pr n f*f n
def B7a{n:Nat}{f g:Nat->Rat}(h:∀ i,i<n->f i=g i):pr n f=pr n g:=by
 induction n with
 | zero=>rfl
 | succ n ih=>rw [pr,pr,ih (fun i a=>h i (by omega)),h n (by omega)]
def Ah(k l:Nat):xch k l k=l:=by unfold xch;rw [iP rfl]
def R6{k l i n:Nat}(hk:k<n)(hl:l<n)(hi:i<n):xch k l i<n:=by unfold xch;split<;>(try split)<;>omega
def A2n{k l i:Nat}(hkl:k<=l)(hi:k<=i):k<=xch k l i:=by unfold xch;split<;>(try split)<;>omega
def At{k l i:Nat}(hkl:k<=l)(hi:i<k):xch k l i=i:=by unfold xch;rw [iN (by omega),iN (by omega)]
def Ty{x d z:Int}(hd:d≠0)(h:x=d*z):x.tdiv d=z:=by
 rw [h,cV _ hd]
structure ERel (n w c:Nat) (A:Nat->Nat->Rat) (s:ES) (t:PS):Prop where
 cs:s.cs=t.cs
 elim:∃ B,(∀ i j,i<n->j<w->Wh (B i j))/\Elim n w B (fun i j=>if i<s.cs.length then s.R i j else t.S i*s.R i j) (fun m=>s.cs.getD m 0) s.cs.length/\(t.last:Rat)=dp B (fun m=>s.cs.getD m 0) s.cs.length
 last:t.last≠0
 val:∀ i j,i<n->j<w->(t.M i j:Rat)=t.last*(if i<s.cs.length then s.R i j else t.S i*s.R i j)
 scale:∀ i,i<n->t.S i≠0
 zero:∀ i j,i<n->s.cs.length<=i->j<c->s.R i j=0
 asc:s.cs.length<=c
 det:s.cs.length=c->s.det*pr s.cs.length t.S=t.sgn*t.last
 miss:s.cs.length<c->s.cs.length<n->s.det=0
 sgn:t.sgn=1\/t.sgn= -1
def J6{z:Int}(h:z≠0):(z:Rat)≠0:=by
 intro e
 exact h (by exact_mod_cast e)
def ERel.start{n w:Nat}{A:Nat->Nat->Rat}{M:Nat->Nat->Int}{S:Nat->Rat}(h:∀ i j,i<n->j<w->(M i j:Rat)=S i*A i j)(hS:∀ i,i<n->S i≠0):ERel n w 0 A ⟨A,[],1⟩ ⟨M,S,[],1,1⟩:=by
 have e:∀ (x:Rat),((1:Int):Rat)*x=x:=fun x=>by
  have:((1:Int):Rat)=1:=rfl
  rw [this,Rat.one_mul]
 refine ⟨rfl,⟨fun i j=>S i*A i j,fun i j b a=>⟨M i j,(h i j b a).symm⟩,?_,rfl⟩,(by decide:(1:Int)≠0),fun i j b a=>?_,hS,fun i j _ _ a=>by omega,aG _,fun _=>?_,fun h=>by simp at h,.inl rfl⟩
 ·have:(fun i j=>if i<([]:List Nat).length then A i j else S i*A i j)=fun i j=>S i*A i j:=by
   funext i j;rw [iN (by simp)]
  show Elim n w _ (fun i j=>if i<([]:List Nat).length then A i j else S i*A i j) _ 0
  rw [this]
  exact Elim.start
 ·show (M i j:Rat)=((1:Int):Rat)*(if i<([]:List Nat).length then A i j else S i*A i j)
  rw [e,iN (by simp),h i j b a]
 ·show (1:Rat)*pr 0 S=((1:Int):Rat)*((1:Int):Rat)
  rw [e]
  exact Rat.one_mul _
def B3c(l:List Nat)(c:Nat):∀ m,m<l.length->(l++[c]).getD m 0=l.getD m 0:=by
 intro m a
 rw [aK,aK,aM a]
def B3d(l:List Nat)(c:Nat):(l++[c]).getD l.length 0=c:=by
 rw [aK,aR (aG _)];simp
def ERel.row{n w c:Nat}{A:Nat->Nat->Rat}{s:ES}{t:PS}(h:ERel n w c A s t)(hc:c<w):Sj n c t=Fv n c s:=by
 unfold Sj Fv
 rw [<- h.cs]
 refine B3g _ _ fun j k l=>?_
 have a:=h.val j c (by omega) hc
 rw [iN (by omega)] at a
 have i:=J6 h.last
 have g:=h.scale j (by omega)
 refine decide_eq_decide.2 (not_congr ⟨fun e=>?_,fun e=>?_⟩)
 ·rw [e] at a
  have f:((0:Int):Rat)=0:=rfl
  rw [f] at a
  rcases Rat.mul_eq_zero.1 a.symm with d|d
  ·exact absurd d i
  ·rcases Rat.mul_eq_zero.1 d with b|b
   ·exact absurd b g
   ·exact b
 ·rw [e,bH,bH] at a
  exact_mod_cast a
def ERel.step{n w c:Nat}{A:Nat->Nat->Rat}{s:ES}{t:PS}(h:ERel n w c A s t)(hc:c<w):ERel n w (c+1) A (Hu n c s) (Dz n c t):=by
 have X:=h.row hc
 have d:=A3y (fun i=>decide (s.R i c≠0)) (n-s.cs.length) s.cs.length
 have D:=A0w (fun i=>decide (s.R i c≠0)) (n-s.cs.length) s.cs.length
 have N:=A0x (fun i=>decide (s.R i c≠0)) (n-s.cs.length) s.cs.length
 have hR:fnd (fun i=>decide (s.R i c≠0)) (n-s.cs.length) s.cs.length=Fv n c s:=rfl
 rw [hR] at d D N
 obtain ⟨B,hB,E,hD⟩:=h.elim
 unfold Hu Dz
 rw [X]
 by_cases G:Fv n c s<n
 ·have p:s.cs.length<n:=by omega
  rw [iP p,iP G,iP G,<- h.cs]
  generalize hr:Fv n c s=r at *
  generalize hl:s.cs.length=k at *
  have ai:s.R r c≠0:=by
   have:=N (by omega)
   simpa using this
  have E1:=E.swap (l:=r) d.1 G
  have Q:∀ m,m<k->s.cs.getD m 0=(s.cs++[c]).getD m 0:=fun m hm=>(B3c s.cs c m (by omega)).symm
  have E2:=E1.cs_congr Q
  have F:(s.cs++[c]).getD k 0=c:=by rw [<- hl];exact B3d _ _
  have f:(s.cs++[c]).length=k+1:=by rw [aD,hl];rfl
  have L:xch k r k=r:=Ah k r
  have ab:(if xch k r k<k then s.R (xch k r k) c else t.S (xch k r k)*s.R (xch k r k) c)=t.S r*s.R r c:=by rw [L,iN (by omega)]
  have ag:=h.scale r G
  have H:t.S r*s.R r c≠0:=by
   intro e
   rcases Rat.mul_eq_zero.1 e with e|e
   ·exact ag e
   ·exact ai e
  have E3:=E2.step (j:=c) p hc F (by show (if xch k r k<k then _ else _)≠0;rw [ab];exact H)
  have aa:=E2.next (j:=c) p hc F
  have af:dp (fun i=>B (xch k r i)) (fun m=>(s.cs++[c]).getD m 0) k=(t.last:Rat):=by
   rw [hD,<- B7s Q,C1v B _ d.1]
  rw [af] at aa
  have ae:(if xch k r k<k then s.R (xch k r k) c else t.S (xch k r k)*s.R (xch k r k) c)=t.S r*s.R r c:=ab
  have q:(t.M r c:Rat)=t.last*(t.S r*s.R r c):=by
   have:=h.val r c G hc
   rw [iN (by omega)] at this;exact this
  have O:dp (fun i=>B (xch k r i)) (fun m=>(s.cs++[c]).getD m 0) (k+1)=(t.M r c:Rat):=by
   rw [aa,q]
   show (t.last:Rat)*(if xch k r k<k then s.R (xch k r k) c else t.S (xch k r k)*s.R (xch k r k) c)=_
   rw [ae]
  have ad:=J6 h.last
  have Z:t.M r c≠0:=by
   intro e
   rw [e] at q
   have h0:((0:Int):Rat)=0:=rfl
   rw [h0] at q
   rcases Rat.mul_eq_zero.1 q.symm with e1|e1
   ·exact ad e1
   ·exact H e1
  have hz:∀ b,b<c->s.R r b=0:=fun b hb=>h.zero r b G (by omega) hb
  have hQ:∀ i j,(if i<k+1 then elimE (fun i=>s.R (xch k r i)) k c i j else t.S (xch k r i)*elimE (fun i=>s.R (xch k r i)) k c i j)=Dg (fun i j=>if xch k r i<k then s.R (xch k r i) j else t.S (xch k r i)*s.R (xch k r i) j) k c i j:=by
   intro i j
   unfold elimE Dg
   by_cases e:i=k
   ·subst e
    simp only [if_true,L,iN (show ¬ r<i by omega),iP (show i<i+1 by omega)]
    grind
   ·have hb:s.R r j=0\/¬ j<c:=by
     by_cases u:j<c
     ·exact .inl (hz j u)
     ·exact .inr u
    simp only [iN e,L,iN (show ¬ r<k by omega)]
    by_cases a:i<k
    ·rw [iP (show i<k+1 by omega),At d.1 a,iP a,iP a]
     split
     ·rename_i o
      rcases o with o|o
      ·rw [o];grind
      ·rw [hz j o];grind
     ·grind
    ·have V:¬ xch k r i<k:=by have:=A2n (i:=i) d.1 (by omega);omega
     rw [iN (show ¬ i<k+1 by omega),iN V,iN V]
     split
     ·rename_i o
      rcases o with o|o
      ·rw [o];grind
      ·rw [hz j o];grind
     ·grind
  have ah:(fun i j=>if i<k+1 then elimE (fun i=>s.R (xch k r i)) k c i j else t.S (xch k r i)*elimE (fun i=>s.R (xch k r i)) k c i j)=Dg (fun i j=>if xch k r i<k then s.R (xch k r i) j else t.S (xch k r i)*s.R (xch k r i) j) k c:=by
   funext i j;exact hQ i j
  have y:∀ i,i<n->xch k r i<n:=fun i a=>R6 p G a
  refine ⟨rfl,⟨fun i=>B (xch k r i),fun i j a u=>hB _ j (y i a) u,?_,?_⟩,Z,fun i j a u=>?_,fun i a=>h.scale _ (y i a),fun i j a C u=>?_,?_,fun T=>?_,fun T _=>?_,?_⟩
  ·show Elim n w _ (fun i j=>if i<(s.cs++[c]).length then elimE (fun i=>s.R (xch k r i)) k c i j else t.S (xch k r i)*elimE (fun i=>s.R (xch k r i)) k c i j) _ (s.cs++[c]).length
   rw [f,ah]
   exact E3
  ·show (t.M r c:Rat)=dp _ _ (s.cs++[c]).length
   rw [f,O]
  ·show (clr (fun i=>t.M (xch k r i)) k c t.last i j:Rat)=(t.M r c:Rat)*(if i<(s.cs++[c]).length then elimE (fun i=>s.R (xch k r i)) k c i j else t.S (xch k r i)*elimE (fun i=>s.R (xch k r i)) k c i j)
   rw [f,hQ i j]
   unfold clr
   by_cases e:i=k
   ·subst e
    rw [iP rfl]
    show (t.M (xch i r i) j:Rat)=_
    rw [L]
    unfold Dg
    simp only [if_true,L,iN (show ¬ r<i by omega)]
    have:=h.val r j G u
    rw [iN (by omega)] at this
    rw [this,q]
    grind
   ·rw [iN e]
    show (((t.M (xch k r k) c*t.M (xch k r i) j-t.M (xch k r i) c*t.M (xch k r k) j).tdiv t.last:Int):Rat)=_
    rw [L]
    have hw:=E3.whole (fun i j a u=>hB _ j (y i a) u) a u
    rw [O] at hw
    obtain ⟨z,W⟩:=hw
    have v1:=h.val (xch k r i) j (y i a) u
    have v2:=h.val (xch k r i) c (y i a) hc
    have v3:=h.val r j G u
    rw [hl] at v1 v2 v3
    rw [iN (show ¬ r<k by omega)] at v3
    have V:t.M r c*t.M (xch k r i) j-t.M (xch k r i) c*t.M r j=t.last*z:=by
     have:((t.M r c*t.M (xch k r i) j-t.M (xch k r i) c*t.M r j:Int):Rat)=((t.last*z:Int):Rat):=by
      rw [Rat.intCast_sub,aW,aW,aW,<- W,v1,v2,v3,q]
      unfold Dg
      simp only [iN e,L,iN (show ¬ r<k by omega)]
      generalize (if xch k r i<k then s.R (xch k r i) j else t.S (xch k r i)*s.R (xch k r i) j)=u1
      generalize (if xch k r i<k then s.R (xch k r i) c else t.S (xch k r i)*s.R (xch k r i) c)=u2
      have o:t.S r*s.R r j/(t.S r*s.R r c)*(t.S r*s.R r c)=t.S r*s.R r j:=by
       rw [Rat.div_mul_cancel H]
      grind
     exact_mod_cast this
    rw [Ty h.last V,<- W]
  ·show elimE (fun i=>s.R (xch k r i)) k c i j=0
   have aj:k+1<=i:=by
    have:(s.cs++[c]).length<=i:=C
    omega
   have al:=A2n (i:=i) d.1 (show k<=i by omega)
   unfold elimE
   rw [iN (by omega)]
   simp only [L]
   by_cases e:j=c
   ·subst e
    split
    ·rename_i o
     rcases o with o|o
     ·exact o
     ·omega
    ·grind
   ·rw [iP (.inr (by omega))]
    exact h.zero _ j (y i a) (by omega) (by omega)
  ·show (s.cs++[c]).length<=c+1
   have:=h.asc
   omega
  ·show (if r=k then s.det else -s.det)*s.R r c*pr (s.cs++[c]).length (fun i=>t.S (xch k r i))=((if r=k then t.sgn else -t.sgn:Int):Rat)*(t.M r c:Rat)
   have ak:k=c:=by
    have:(s.cs++[c]).length=c+1:=T
    omega
   have hd:=h.det (by omega)
   rw [hl] at hd
   rw [f,pr,L,B7a (g:=t.S) fun i a=>by rw [At d.1 a],q]
   by_cases e:r=k
   ·rw [iP e,iP e];grind
   ·rw [iN e,iN e,Rat.intCast_neg];grind
  ·show (if r=k then s.det else -s.det)*s.R r c=0
   have:(s.cs++[c]).length<c+1:=T
   have hd:=h.miss (by omega) (by omega)
   rw [hd]
   split<;>grind
  ·show (if r=k then t.sgn else -t.sgn)=1\/(if r=k then t.sgn else -t.sgn)= -1
   have:=h.sgn
   split<;>omega
 ·rw [iN G,iN G]
  have ac:∀ i,i<n->s.cs.length<=i->s.R i c=0:=by
   intro i a C
   have:=D i C (by omega)
   simpa using this
  have J:∀ i j,i<n->s.cs.length<=i->j<c+1->s.R i j=0:=by
   intro i j a C u
   by_cases e:j=c
   ·rw [e];exact ac i a C
   ·exact h.zero i j a C (by omega)
  by_cases p:s.cs.length<n
  ·rw [iP p]
   exact ⟨h.cs,⟨B,hB,E,hD⟩,h.last,h.val,h.scale,J,bZ h.asc,fun T=>by have:=h.asc;have:s.cs.length=c+1:=T;omega,fun _ _=>rfl,h.sgn⟩
  ·rw [iN p]
   exact ⟨h.cs,⟨B,hB,E,hD⟩,h.last,h.val,h.scale,J,bZ h.asc,fun T=>by have:=h.asc;omega,fun _ V=>absurd V p,h.sgn⟩
def ERel.run{n w:Nat}{A:Nat->Nat->Rat}{s:ES}{t:PS}(h:ERel n w 0 A s t):∀ c,c<=w->ERel n w c A (B1b n s c) (Da n t c):=by
 intro c
 induction c with
 | zero=>exact fun _=>h
 | succ c ih=>exact fun a=>(ih (by omega)).step (by omega)
end Go.Proofs.YtmbfcbbkbefgfaaGreatDoor
namespace Go.Proofs.YtmbfcbbkbefgfaaGreatDoor
set_option maxRecDepth 20000
def Sz.elimE{n w k j m:Nat}{R:Nat->Nat->Rat}(hR:∀ a b,a<n->b<w->Sz m (R a b))(hk:k<n)(hj:j<w)(hm:1<=m){a b:Nat}(ha:a<n)(hb:b<w):Sz (7*m) (elimE R k j a b):=by
 have c:Sz (m+m) (R k b/R k j):=(hR k b hk hb).div (hR k j hk hj) hm
 unfold Go.Proofs.YtmbfcbbkbefgfaaGreatDoor.elimE
 split
 ·exact c.mono (by omega)
 ·split
  ·exact (hR a b ha hb).mono (by omega)
  ·exact ((hR a b ha hb).sub ((hR a j ha hj).mul c)).mono (by omega)
def C19(n c:Nat)(s:ES)(h:s.cs.length<=n):s.cs.length<=Fv n c s/\Fv n c s<=n:=by
 have:=A3y (fun i=>decide (s.R i c≠0)) (n-s.cs.length) s.cs.length
 unfold Fv
 omega
structure SzE (n w m:Nat) (s:ES):Prop where
 R:∀ a b,a<n->b<w->Sz (7^s.cs.length*m) (s.R a b)
 det:Sz (7^s.cs.length*m) s.det
 len:s.cs.length<=n
def A7u(k m:Nat)(hm:1<=m):1<=7^k*m:=by
 have:0<7^k:=Nat.pow_pos (by decide)
 exact Nat.mul_pos this hm
def SzE.step{n w m c:Nat}{s:ES}(h:SzE n w m s)(hm:1<=m)(hc:c<w):SzE n w m (Hu n c s):=by
 have l:=C19 n c s h.len
 have k:=A7u s.cs.length m hm
 unfold Hu
 by_cases f:s.cs.length<n
 ·rw [iP f]
  by_cases d:Fv n c s<n
  ·rw [iP d]
   have e:(s.cs++[c]).length=s.cs.length+1:=by simp
   have j:7^(s.cs.length+1)*m=7*(7^s.cs.length*m):=by rw [dB,bJ (7^s.cs.length) 7,cI]
   refine ⟨fun a b i g=>?_,?_,?_⟩
   ·show Sz (7^(s.cs++[c]).length*m) _
    rw [e,j]
    exact Sz.elimE (n:=n) (w:=w) (fun a b i g=>h.R _ b (R6 f d i) g) f hc k i g
   ·show Sz (7^(s.cs++[c]).length*m) ((if Fv n c s=s.cs.length then s.det else -s.det)*s.R (Fv n c s) c)
    rw [e,j]
    have:Sz (7^s.cs.length*m) (if Fv n c s=s.cs.length then s.det else -s.det):=by
     split
     ·exact h.det
     ·exact h.det.neg
    exact (this.mul (h.R _ c d hc)).mono (by omega)
   ·show (s.cs++[c]).length<=n
    omega
  ·rw [iN d]
   exact ⟨h.R,Sz.zero k,h.len⟩
 ·rw [iN f];exact h
def SzE.run{n w m:Nat}{s:ES}(h:SzE n w m s)(hm:1<=m):∀ c,c<=w->SzE n w m (B1b n s c):=by
 intro c
 induction c with
 | zero=>exact fun _=>h
 | succ c ih=>exact fun a=>(ih (by omega)).step hm (by omega)
def ZB.tdivS{m:Nat}{x d:Int}(h:ZB m x):ZB m (x.tdiv d):=by
 refine h.le ?_
 rw [Int.natAbs_tdiv]
 exact Nat.div_le_self _ _
def ZB.clr{n w k j m:Nat}{M:Nat->Nat->Int}{d:Int}(hM:∀ a b,a<n->b<w->ZB m (M a b))(hk:k<n)(hj:j<w){a b:Nat}(ha:a<n)(hb:b<w):ZB (2*m+1) (clr M k j d a b):=by
 unfold Go.Proofs.YtmbfcbbkbefgfaaGreatDoor.clr
 split
 ·exact (hM k b hk hb).mono (by omega)
 ·refine ZB.tdivS ?_
  have c:=(hM k j hk hj).mul (hM a b ha hb)
  have e:=(hM a j ha hj).mul (hM k b hk hb)
  exact (c.sub e).mono (by omega)
def A5x(n c:Nat)(s:PS)(h:s.cs.length<=n):s.cs.length<=Sj n c s/\Sj n c s<=n:=by
 have:=A3y (fun i=>decide (s.M i c≠0)) (n-s.cs.length) s.cs.length
 unfold Sj
 omega
structure ZbP (n w m l:Nat) (s:PS):Prop where
 M:∀ a b,a<n->b<w->ZB (3^s.cs.length*m) (s.M a b)
 last:ZB (3^s.cs.length*m) s.last
 S:∀ a,a<n->Sz l (s.S a)
 len:s.cs.length<=n
def A7v(k m:Nat)(hm:1<=m):1<=3^k*m:=by
 have:0<3^k:=Nat.pow_pos (by decide)
 exact Nat.mul_pos this hm
def ZbP.step{n w m l c:Nat}{s:PS}(h:ZbP n w m l s)(hm:1<=m)(hc:c<w):ZbP n w m l (Dz n c s):=by
 have k:=A5x n c s h.len
 have o:=A7v s.cs.length m hm
 unfold Dz
 by_cases d:Sj n c s<n
 ·rw [iP d]
  have i:s.cs.length<n:=by omega
  have e:(s.cs++[c]).length=s.cs.length+1:=by simp
  have j:3^(s.cs.length+1)*m=3*(3^s.cs.length*m):=by rw [dB,bJ (3^s.cs.length) 3,cI]
  refine ⟨fun a b f g=>?_,?_,fun a f=>h.S _ (R6 i d f),?_⟩
  ·show ZB (3^(s.cs++[c]).length*m) _
   rw [e,j]
   exact (ZB.clr (n:=n) (w:=w) (fun a b f g=>h.M _ b (R6 i d f) g) i hc f g).mono (by omega)
  ·show ZB (3^(s.cs++[c]).length*m) (s.M (Sj n c s) c)
   rw [e,j]
   exact (h.M _ c d hc).mono (by omega)
  ·show (s.cs++[c]).length<=n
   omega
 ·rw [iN d];exact h
def ZbP.run{n w m l:Nat}{s:PS}(h:ZbP n w m l s)(hm:1<=m):∀ c,c<=w->ZbP n w m l (Da n s c):=by
 intro c
 induction c with
 | zero=>exact fun _=>h
 | succ c ih=>exact fun a=>(ih (by omega)).step hm (by omega)
structure Asc (l:List Nat) (c:Nat):Prop where
 lt:∀ x∈l,x<c
 asc:l.Pairwise (· < ·)
def U9(z:Int)(l:List bD):iAt (I z::l) 0=z:=rfl
def A9h:prog.cellsOf E7=4/\(prog.info? E7).isSome=true:=A31
def B1w:prog.cellsOf G2=4/\(prog.info? G2).isSome=true:=Nf
section
variable {α β:Type} [E:Enc α] {R:aE->α->β->Prop}
def OwnK(R:aE->α->β->Prop)(h h':aE)(b n k:Nat)(f:Nat->β):Prop:=∃ g o xs,h.le g/\Sep h' g o/\RowX o b xs/\xs.length=n/\Row R g xs k f
def OwnK.zero{h:aE}{b n:Nat}{f:Nat->β}{e:aZ}{z:α}(hb:h b=none):OwnK R h (B9t e h b (cR n z)) b n 0 f:=
 ⟨h,U1.put b (.cells ((cR n z).flatMap enc).toArray e),cR n z,B5 _,Cu hb,RowX.mk,by simp,Row.nil⟩
def OwnK.store(m:Mon R){P:cC}{t:aZ}(one:P.cellsOf t=E.default.size/\(P.info? t).isSome=true){h h' g g' o:aE}{b n k:Nat}{f:Nat->β}{xs:List α}(lg:h.le g)(lg':g.le g')(s:Sep h' g' o)(rb:RowX o b xs)(hn:xs.length=n)(r:Row R g xs k f)(hk:k<n){v:bD}{y:α}(hv:v.cells=(enc y).toArray)(hy:R g' y (f k)){K:Unit->aE->Prop}
 (x:∀ h2,OwnK R h h2 b n (k+1) f->K () h2):wpH P (aO t (.pointer (some (aC ⟨b,0,none⟩ (k*E.default.size)))) v) K h':=by
 refine Ag one hv s rb (by omega) ?_
 intro h2 a i e d c
 exact x h2 ⟨g',a,_,B0 lg lg',d,c,by simpa using hn,(r.mono m lg').set (by omega) hy⟩
end
def As:QV:=⟨false,none,0,0,false,none,0,0⟩
section
variable {h:aE} {K:VP} {A:Option aI} {n c m:Nat} {ls:Nat->List UInt8} {f:Nat->Rat} {a w:QV} {q:Rat}
def A3g(gl:Gl h)(r:bV SSr h A n ls)(hn:n<=1000000)(hl:LL n ls)
 (hK1:(∀ i,i<n->cU (ls i))->∀ b h',Own RQr h h' b n (fun i=>rv (ls i))->K (.tuple #[.slice (some ⟨b,0,none⟩) n n,.bool true]) h')
 (hK0:¬ (∀ i,i<n->cU (ls i))->∀ h',h.le h'->K (.tuple #[.slice none 0 0,.bool false]) h'):aV prog Qh #[.slice A n c] h K:=by
 refine A72 _ _ _ ?_
 unfold A8v
 refine Q3 A9g (zx:=As) rfl (by omega) (by omega) (by omega) (by omega) ?_
 intro b J
 refine ⟨_,_,_,rfl,fun L z=>∃ k:Nat,k<=n/\L=[I k]/\(∀ i,i<k->cU (ls i))/\OwnK RQr h z b n k (fun i=>rv (ls i)),fun L _=>n-(iAt L 0).toNat,⟨0,by omega,rfl,fun i N=>by omega,OwnK.zero J⟩,?_⟩
 rintro t z ⟨k,W,S,f,g,o,H,j,s,G,C,F⟩
 obtain rfl:=sI1 S
 refine B8 (fun u=>?_) (fun T=>?_)
 ·have d:k<n:=by omega
  obtain ⟨a,rfl,O⟩:=(r.mono O3 (B0 j s.le)).sat d
  refine ⟨a,rfl,by omega,by omega,_,O,?_⟩
  refine s.call (A9q (gl.mono j).tz (hl k d) ?_ ?_)
  ·intro q e w E p R D m
   refine ⟨_,_,_,_,_,_,_,_,_,rfl,_,rfl,by omega,by simpa using u,?_⟩
   refine OwnK.store I8 B1w (y:=w) j p m G C F d rfl (by show RQ E w (rv (ls k));rw [e,Hx];exact R) ?_
   intro V M
   rw [wiS k (by omega)]
   refine ⟨⟨k+1,by omega,rfl,fun i N=>?_,M⟩,?_⟩
   ·by_cases Q:i=k
    ·subst Q;exact ⟨q,e⟩
    ·exact f i (by omega)
   ·simp only [U9];omega
  ·intro B w E p _ D m
   exact ⟨_,_,_,_,_,_,_,_,_,rfl,hK0 (fun l=>B (l k d)) D (B0 j (B0 p m.le))⟩
 ·have:k=n:=by omega
  subst this
  exact hK1 f b z ⟨g,o,H,j,s,G,C,F⟩
def Ht(gl:Gl h)(r:bV RQr h A n f)(hn:n<=1000000)(hs:∀ i,i<n->Sz m (f i))(hm:m<=40000000)
 (hK:∀ b h',Own SSr h h' b n (fun i=>K9 (f i))->K (.slice (some ⟨b,0,none⟩) n n) h'):aV prog Ey #[.slice A n c] h K:=by
 refine A71 _ _ _ ?_
 unfold A8u
 refine Q3 Dn (zx:=([]:List UInt8)) rfl (by omega) (by omega) (by omega) (by omega) ?_
 intro b C
 refine ⟨_,_,_,rfl,fun L l=>∃ k:Nat,k<=n/\L=[I k]/\OwnK SSr h l b n k (fun i=>K9 (f i)),fun L _=>n-(iAt L 0).toNat,⟨0,by omega,rfl,OwnK.zero C⟩,?_⟩
 rintro t l ⟨k,Q,M,g,o,B,e,s,u,p,q⟩
 obtain rfl:=sI1 M
 refine B8 (fun j=>?_) (fun N=>?_)
 ·have d:k<n:=by omega
  obtain ⟨a,w,rfl,H,D,F,J,G⟩:=(r.mono I8 e).qat d
  refine ⟨_,rfl,by omega,by omega,_,_,_,_,_,_,_,_,C1 s.le D,C1 s.le F,C1 s.le J,C1 s.le G,?_⟩
  refine s.call (A39 (gl.mono e).p10 H (hs k d) hm ?_)
  intro R z
  refine ⟨_,rfl,_,rfl,by omega,by simpa using j,?_⟩
  refine OwnK.store O3 Rl (y:=K9 (f k)) e (B5 _) z u p q d rfl rfl ?_
  intro O E
  rw [wiS k (by omega)]
  exact ⟨⟨k+1,by omega,rfl,E⟩,by simp only [U9];omega⟩
 ·have:k=n:=by omega
  subst this
  exact hK b l ⟨g,o,B,e,s,u,p,q⟩
def B2r(r:bV SSr h A n ls)(hn:n<=1000000)(hl:LL n ls)
 (hK1:(∀ i,i<n->cU (ls i))->∀ b h',Own NQr h h' b n (fun i=>rv (ls i))->K (.tuple #[.slice (some ⟨b,0,none⟩) n n,.bool true]) h')
 (hK0:¬ (∀ i,i<n->cU (ls i))->∀ h',h.le h'->K (.tuple #[.slice none 0 0,.bool false]) h'):aV prog A6k #[.slice A n c] h K:=by
 refine B8l _ _ _ ?_
 unfold C4k
 refine Q3 Sg (zx:=As) rfl (by omega) (by omega) (by omega) (by omega) ?_
 intro b J
 refine ⟨_,_,_,rfl,fun L z=>∃ k:Nat,k<=n/\L=[I k]/\(∀ i,i<k->cU (ls i))/\OwnK NQr h z b n k (fun i=>rv (ls i)),fun L _=>n-(iAt L 0).toNat,⟨0,by omega,rfl,fun i N=>by omega,OwnK.zero J⟩,?_⟩
 rintro t z ⟨k,W,S,f,g,o,H,l,s,G,C,F⟩
 obtain rfl:=sI1 S
 refine B8 (fun u=>?_) (fun T=>?_)
 ·have d:k<n:=by omega
  obtain ⟨a,rfl,O⟩:=(r.mono O3 (B0 l s.le)).sat d
  refine ⟨a,rfl,by omega,by omega,_,O,?_⟩
  refine s.call (A3f (hl k d) ?_ ?_)
  ·intro q e w E p R D m
   refine ⟨_,_,_,_,_,_,_,_,_,rfl,_,rfl,by omega,by simpa using u,?_⟩
   refine OwnK.store V8 A9h (y:=w) l p m G C F d rfl (by show NQ E w (rv (ls k));rw [e,Hx];exact R) ?_
   intro V M
   rw [wiS k (by omega)]
   refine ⟨⟨k+1,by omega,rfl,fun i N=>?_,M⟩,?_⟩
   ·by_cases Q:i=k
    ·subst Q;exact ⟨q,e⟩
    ·exact f i (by omega)
   ·simp only [U9];omega
  ·intro B w E p D m
   exact ⟨_,_,_,_,_,_,_,_,_,rfl,hK0 (fun j=>B (j k d)) D (B0 l (B0 p m.le))⟩
 ·have:k=n:=by omega
  subst this
  exact hK1 f b z ⟨g,o,H,l,s,G,C,F⟩
def Ye(r:bV NQr h A n f)(hn:n<=1000000)(hs:∀ i,i<n->Sz m (f i))(hm:m<=1000000000)
 (hK:∀ b h',Own SSr h h' b n (fun i=>K9 (f i))->K (.slice (some ⟨b,0,none⟩) n n) h'):aV prog Ti #[.slice A n c] h K:=by
 refine B5c _ _ _ ?_
 unfold C07
 refine Q3 Dn (zx:=([]:List UInt8)) rfl (by omega) (by omega) (by omega) (by omega) ?_
 intro b C
 refine ⟨_,_,_,rfl,fun L l=>∃ k:Nat,k<=n/\L=[I k]/\OwnK SSr h l b n k (fun i=>K9 (f i)),fun L _=>n-(iAt L 0).toNat,⟨0,by omega,rfl,OwnK.zero C⟩,?_⟩
 rintro t l ⟨k,Q,M,g,o,B,e,s,u,p,q⟩
 obtain rfl:=sI1 M
 refine B8 (fun j=>?_) (fun N=>?_)
 ·have d:k<n:=by omega
  obtain ⟨a,w,rfl,H,D,F,J,G⟩:=(r.mono V8 e).qat d
  refine ⟨_,rfl,by omega,by omega,_,_,_,_,_,_,_,_,C1 s.le D,C1 s.le F,C1 s.le J,C1 s.le G,?_⟩
  refine s.call (A2x H (hs k d) hm ?_)
  intro R z
  refine ⟨_,rfl,_,rfl,by omega,by simpa using j,?_⟩
  refine OwnK.store O3 Rl (y:=K9 (f k)) e (B5 _) z u p q d rfl rfl ?_
  intro O E
  rw [wiS k (by omega)]
  exact ⟨⟨k+1,by omega,rfl,E⟩,by simp only [U9];omega⟩
 ·have:k=n:=by omega
  subst this
  exact hK b l ⟨g,o,B,e,s,u,p,q⟩
def Bv(f:Nat->Rat):Nat->Nat
 | 0=>1
 | n+1=>Nat.lcm (Bv f n) (f n).den
def A0q(f:Nat->Rat):∀ n,0<Bv f n:=by
 intro n
 induction n with
 | zero=>exact Nat.one_pos
 | succ n ih=>exact Nat.lcm_pos ih (f n).den_pos
def A0r(f:Nat->Rat):∀ n i,i<n->(f i).den∣Bv f n:=by
 intro n
 induction n with
 | zero=>intro i h;omega
 | succ n ih=>
  intro i a
  by_cases e:i=n
  ·subst e;exact Nat.dvd_lcm_right _ _
  ·exact Nat.dvd_trans (ih i (by omega)) (Nat.dvd_lcm_left _ _)
def ZB.lcm{k j:Nat}{x y:Nat}(hx:ZB k (x:Int))(hy:ZB j (y:Int)):ZB (k+j) ((Nat.lcm x y:Nat):Int):=by
 have:=hx.mul hy
 unfold ZB at *
 rw [cJ]
 rw [Int.natAbs_mul,cJ,cJ] at this
 refine Nat.lt_of_le_of_lt ?_ this
 unfold Nat.lcm
 exact Nat.div_le_self _ _
def Lh{f:Nat->Rat}{m:Nat}: ∀ n,(∀ i,i<n->Sz m (f i))->ZB (1+n*m) (Bv f n:Int):=by
 intro n
 induction n with
 | zero=>intro _;exact ZB.one (by omega)
 | succ n ih=>
  intro h
  have:=(ih fun i a=>h i (by omega)).lcm (h n (by omega)).den
  exact this.mono (by rw [aL,aQ];omega)
def Ee(gl:Gl h)(r:bV RQr h A n f)(hn:n<=1000000)(hs:∀ i,i<n->Sz m (f i))(hm:1+n*m+m<=6400000000)
 (hK:∀ s A' n' c' h',h.le h'->ZI h' s A' n' c' (Bv f n:Int)->K (.agg #[.bool s,.slice A' n' c']) h'):aV prog K6 #[.slice A n c] h K:=by
 refine Jh _ _ _ ?_
 unfold Dw
 refine Cv (by omega) (by omega) ?_
 intro s1 A1 n1 c1 z W N
 refine ⟨_,_,_,_,rfl,fun L p=>∃ (k:Nat) (s:Bool) (B:Option aI) (q o:Nat),k<=n/\L=[I k,.bool s,.slice B q o]/\h.le p/\ZI p s B q o (Bv f k:Int),fun L _=>n-(iAt L 0).toNat,⟨0,_,_,_,_,by omega,rfl,W,N⟩,?_⟩
 rintro t s B q o p ⟨k,D,B',j,g,hk,J,l,i⟩
 simp only [aX,bU,bM,aT,true_and,and_true] at J
 obtain ⟨rfl,rfl,rfl,rfl,rfl⟩:=J
 have M:B7 ((k:Int)+1)=((k+1:Nat):Int):=by rw [C0]<;>omega
 refine B8 (fun V=>?_) (fun aa=>?_)
 ·have u:k<n:=by omega
  obtain ⟨a,w,rfl,H,O,T,d2,Z⟩:=(r.mono I8 l).qat u
  have R:1+k*m<=6400000000:=by
   have:k*m<=n*m:=aF _ (by omega)
   omega
  have d:1+k*m+m<=6400000000:=by
   have:k*m<=n*m:=aF _ (by omega)
   omega
  have X:=(Lh k fun i hi=>hs i (by omega)).mono (show 1+k*m<=1+k*m+m by omega)
  have F:=(hs k u).den.mono (show m<=1+k*m+m by omega)
  refine ⟨_,rfl,by omega,by omega,_,_,_,_,_,_,_,_,O,T,d2,Z,?_⟩
  refine F5 H.den ⟨_,rfl,?_⟩
  have y:((if (f k).den=1 then 0 else ((f k).den:Int))=0)↔(f k).den=1:=by
   have:=(f k).den_pos
   split<;>omega
  have same:Bv f (k+1)=Bv f k->(∃ (k':Nat) (D:Bool) (B':Option aI) (j g:Nat),k'<=n/\[I (B7 ((k:Int)+1)),.bool s,.slice B q o]=[I k',.bool D,.slice B' j g]/\h.le p/\ZI p D B' j g (Bv f k':Int))/\n-(iAt [I (B7 ((k:Int)+1)),.bool s,.slice B q o] 0).toNat<n-(iAt [I (k:Int),.bool s,.slice B q o] 0).toNat:=by
   intro e
   rw [M]
   exact ⟨⟨k+1,_,_,_,_,by omega,rfl,l,by rw [e];exact i⟩,by simp only [U9];omega⟩
  refine Br.not (B8 (fun z=>?_) (fun z=>?_))
  ·have C:=y.1 z
   exact same (by rw [Bv,C];exact Nat.lcm_one_right _)
  ·have C:(if (f k).den=1 then 0 else ((f k).den:Int))=((f k).den:Int):=iN fun e=>z (y.2 e)
   have b:=H.den
   rw [C] at b
   refine A5f b i F d ⟨_,rfl,?_⟩
   refine Br.not (B8 (fun G=>?_) (fun G=>?_))
   ·have S:(f k).den=Bv f k:=by exact_mod_cast G
    exact same (by rw [Bv,S];exact Nat.lcm_self _)
   ·refine A2l (gl.mono l).tz i b X F d ?_
    intro A' n' c' h' Q E
    refine ⟨_,_,_,_,rfl,?_⟩
    rw [M]
    refine ⟨⟨k+1,_,_,_,_,by omega,rfl,B0 l Q,?_⟩,by simp only [U9];omega⟩
    have:Int.lcm (Bv f k:Int) ((f k).den:Int)=Bv f (k+1):=by simp [Int.lcm,Bv]
    rw [this] at E;exact E
 ·have:k=n:=by omega
  subst this
  exact hK _ _ _ _ p l i
def scl(q:Rat)(d:Int):Int:=q.num*d.tdiv q.den
def C1g(q:Rat):q*(q.den:Rat)=(q.num:Rat):=by
 have h:=Rat.num_divInt_den q
 rw [bX] at h
 have a:((q.den:Int):Rat)≠0:=J6 (den_ne q)
 have e:((q.den:Int):Rat)=(q.den:Rat):=rfl
 rw [<- e]
 calc q*((q.den:Int):Rat)=(q.num:Rat)/((q.den:Int):Rat)*((q.den:Int):Rat):=by rw [h]
  _=q.num:=Rat.div_mul_cancel a
def B23{q:Rat}{d:Int}(h:(q.den:Int)∣d):(scl q d:Rat)=q*d:=by
 obtain ⟨e,rfl⟩:=h
 unfold scl
 rw [cV _ (den_ne q),aW,aW]
 have a:q*(q.den:Rat)=(q.num:Rat):=C1g q
 have b:(((q.den:Nat):Int):Rat)=(q.den:Rat):=rfl
 rw [b,<- a,Rat.mul_assoc]
def B22{q:Rat}{d:Int}{k:Nat}(hq:Sz m q)(hd:ZB k d):ZB (m+k) (scl q d):=hq.num.mul hd.tdiv
def Ky{s:Bool}{B:Option aI}{bn bc:Nat}{d:Int}(i:RQ h w q)(j:ZI h s B bn bc d)(hq:Sz m q)(hd:ZB m d)(hm:m<=6400000000)
 (hK:∀ s A' n' c' h',h.le h'->ZI h' s A' n' c' (scl q d)->K (.agg #[.bool s,.slice A' n' c']) h'):aV prog Ih #[w.v,.agg #[.bool s,.slice B bn bc]] h K:=by
 refine B0t _ _ _ _ _ _ _ _ _ _ _ _ ?_
 unfold B57
 refine F5 i.den ⟨_,rfl,?_⟩
 have b:((if q.den=1 then 0 else (q.den:Int))=0)↔q.den=1:=by
  have:=q.den_pos
  split<;>omega
 refine B8 (fun g=>?_) (fun g=>?_)
 ·have f:=b.1 g
  refine N3 i.num j hq.num hd hm ?_
  intro r A' n' c' h' l t
  refine ⟨_,_,_,_,rfl,hK _ _ _ _ _ l ?_⟩
  have:scl q d=q.num*d:=by unfold scl;rw [f];simp
  rw [this];exact t
 ·have f:(if q.den=1 then 0 else (q.den:Int))=(q.den:Int):=iN fun e=>g (b.2 e)
  have a:=i.den
  rw [f] at a
  refine R5 j a hd hq.den hm (den_ne q) ?_
  intro r A1 z c1 o c p
  refine ⟨_,_,_,_,rfl,c,?_⟩
  refine N3 (i.num.mono c) p hq.num hd.tdiv hm ?_
  intro u A2 y c2 A k n
  exact ⟨_,_,_,_,rfl,k,hK _ _ _ _ _ (B0 c k) n⟩
end
instance:Enc Int:=⟨⟨fun z=>[I z],1,fun _=>rfl,fun z v hv=>by rw [List.mem_singleton.1 hv];rfl⟩⟩
abbrev IIr:aE->Int->Int->Prop:=fun _ w z=>w=z
section
variable {α:Type} [E:Enc α]
def OwnSl(o:aE)(e:aZ)(A:Option aI)(c:Nat)(xs:List α):Prop:=
 xs.length<=c/\((c=0/\A=none)\/∃ b arr,A=some ⟨b,0,none⟩/\o b=some (.cells (bK arr) e)/\arr.length=c*E.default.size/\arr.take (xs.length*E.default.size)=xs.flatMap enc)
def OwnSl.nil{o:aE}{e:aZ}:OwnSl o e none 0 ([]:List α):=⟨aG _,.inl ⟨rfl,rfl⟩⟩
def OwnSl.keep{o o':aE}{e:aZ}{A:Option aI}{c:Nat}{xs:List α}(w:OwnSl o e A c xs)(h:∀ b x,A=some ⟨b,0,none⟩->o b=some x->o' b=some x):OwnSl o' e A c xs:=by
 refine ⟨w.1,?_⟩
 rcases w.2 with g|⟨b,a,d,f,i,j⟩
 ·exact .inl g
 ·exact .inr ⟨b,a,d,h b _ d f,i,j⟩
def OwnSl.rowB{o:aE}{e:aZ}{A:Option aI}{c:Nat}{xs:List α}(w:OwnSl o e A c xs)(hne:xs≠[]):∃ b,A=some ⟨b,0,none⟩/\RowB o b xs:=by
 rcases w.2 with f|⟨b,a,g,d,j,i⟩
 ·exfalso
  have:=w.1
  have:=f.1
  have:xs.length≠0:=fun h=>hne (bO h)
  omega
 ·exact ⟨b,g,e,a.drop (xs.length*E.default.size),by rw [d,<- i,List.take_append_drop]⟩
def OwnSl.slF{o h:aE}{e:aZ}{A:Option aI}{c:Nat}{xs:List α}(w:OwnSl o e A c xs)(hl:o.le h):SlF h A xs:=by
 by_cases a:xs=[]
 ·rw [a];exact SlF.nil
 ·obtain ⟨b,rfl,r⟩:=w.rowB a
  exact r.slF hl
def OwnSl.priv{h g o:aE}{e:aZ}{A:Option aI}{c:Nat}{xs:List α}(s:Sep h g o)(w:OwnSl o e A c xs):∃ gb,PrivF h gb e A c xs/\∀ k x,h k=some x->A≠some ⟨k,0,none⟩->gb k=some x:=by
 rcases w.2 with ⟨l,m⟩|⟨b,a,f,j,n,p⟩
 ·subst l
  have i:xs=[]:=bO (by have:=w.1;omega)
  subst i
  exact ⟨h,PrivF.nil h e A,fun k x e _=>e⟩
 ·refine ⟨h.without b,⟨L8 xs,w.1,.inr ⟨b,a,f,Fk _ _,(N2 (s.own b _ j)).symm,n,p⟩⟩,fun k x e d=>?_⟩
  unfold Heap.without
  rw [iN]
  ·exact e
  ·rintro rfl;exact d f
def OwnSl.push{P:cC}{t e ty:aZ}{z:bD}{bytes:Nat}(st:SliceT P t e z E.default.size bytes){h g o:aE}{A:Option aI}{c:Nat}{xs:List α}(s:Sep h g o)(w:OwnSl o e A c xs){v:bD}{y:α}(hv:v.cells=(enc y).toArray)(hsz:E.default.size<=1000)
 (hb:(2*(xs.length+1)+192)*bytes<=281474976710656) (hn:xs.length+1<=9223372036854775807) {K1:aE->Prop} {K:Option aI->Nat->Nat->aE->Prop}
 (x0:∀ h1,h.le h1->K1 h1)
 (x:∀ A' c' h' g' o',g.le g'->Sep h' g' o'->OwnSl o' e A' c' (xs++[y])->(∀ k u,o k=some u->A≠some ⟨k,0,none⟩->o' k=some u/\A'≠some ⟨k,0,none⟩)->K A' (xs.length+1) c' h'):
 wpH P (bC t 1 #[(0,v)]) (fun v' hp=>∃ (B:Option aI) (m d:Nat),v'= .slice B m d/\K1 hp/\wpH P (aS #[t,t] ty #[.slice A xs.length c,.slice B m d]) (fun v1 hp1=>∃ (A':Option aI) (n' c':Nat),v1= .slice A' n' c'/\K A' n' c' hp1) hp) h:=by
 obtain ⟨gb,p,G⟩:=w.priv s
 refine Nv st (vs:=[v]) (fun u hu=>by rw [List.mem_singleton.1 hu,hv];simp [E.default.len]) rfl (by simp;omega) rfl ?_
 intro b i
 have Q:[v].flatMap (fun v=>v.cells.toList)=[y].flatMap enc:=by simp [hv]
 rw [Q]
 refine ⟨_,_,_,rfl,x0 _ (Heap.le_put _ i),?_⟩
 have p':PrivF (h.put b (.cells ([y].flatMap enc).toArray e)) (gb.put b (.cells ([y].flatMap enc).toArray e)) e A c xs:=Priv.put p i _
 refine Kg st p' (ys:=[y]) rfl (B4f e h b [y]) hb hn ?_
 intro A' c' h' g' Z hp
 refine ⟨_,_,_,rfl,?_⟩
 rw [aD]
 have H:∀ k u,h k=some u->A≠some ⟨k,0,none⟩->g' k=some u:=by
  intro k u a S
  have f:k≠b:=by rintro rfl;rw [i] at a;cases a
  exact Z k u (by rw [B9 _ _ f];exact G k u a S)
 have R:∀ k u,g k=some u->A≠some ⟨k,0,none⟩:=by
  intro k u a n
  rcases w.2 with ⟨_,X⟩|⟨j,q,l,r,_⟩
  ·rw [n] at X;cases X
  ·rw [n] at l
   simp only [aJ,aP,and_true] at l
   subst l
   rw [s.dis k _ r] at a;cases a
 rcases hp.2.2 with ⟨aa,_⟩|⟨j,q,l,r,L,ha,ht⟩
 ·exfalso
  have:=hp.2.1
  rw [aD] at this
  simp at this
  omega
 ·subst l
  let o':aE:=fun k=>if k=j then some (.cells (bK q) e) else if A=some ⟨k,0,none⟩ then none else o k
  have W:o' j=some (.cells (bK q) e):=by show (if j=j then _ else _)=_;rw [iP rfl]
  have ok:∀ k,k≠j->A≠some ⟨k,0,none⟩->o' k=o k:=fun k h1 F=>by show (if k=j then _ else if _ then _ else _)=_;rw [iN h1,iN F]
  have M:∀ k,k≠j->A=some ⟨k,0,none⟩->o' k=none:=fun k h1 F=>by show (if k=j then _ else if _ then _ else _)=_;rw [iN h1,iP F]
  let g2:aE:=fun k=>match o' k with|some _=>none|none=>h' k
  have gs:∀ k u,o' k=some u->g2 k=none:=fun k u a=>by show (match o' k with|some _=>none|none=>h' k)=_;rw [a]
  have V:∀ k,o' k=none->g2 k=h' k:=fun k a=>by show (match o' k with|some _=>none|none=>h' k)=_;rw [a]
  have C:∀ k u,k≠j->g' k=some u->h' k=some u:=fun k u h1 a=>by rw [L,B9 _ _ h1];exact a
  have J:∀ k u,o k=some u->A≠some ⟨k,0,none⟩->k≠j:=by
   rintro k u a F rfl
   have:=H k u (s.own k u a) F
   rw [r] at this;cases this
  refine x _ c' h' g2 o' (fun k u a=>?_) ⟨fun k u a=>?_,fun k a=>(V k a).symm,gs⟩ ⟨hp.2.1,.inr ⟨j,q,rfl,W,ha,ht⟩⟩ (fun k u a F=>?_)
  ·have O:o k=none:=by
    cases ho:o k with
    | none=>rfl
    | some y=>rw [s.dis k y ho] at a;cases a
   have n:=R k u a
   have N:=H k u (s.le k u a) n
   have D:k≠j:=by rintro rfl;rw [r] at N;cases N
   rw [V k (by rw [ok k D n];exact O)]
   exact C k u D N
  ·by_cases f:k=j
   ·subst f
    rw [W] at a;cases a
    rw [L,C2]
   ·by_cases n:A=some ⟨k,0,none⟩
    ·rw [M k f n] at a;cases a
    ·rw [ok k f n] at a
     exact C k u f (H k u (s.own k u a) n)
  ·have f:=J k u a F
   refine ⟨by rw [ok k f F];exact a,fun T=>f ?_⟩
   simp only [aJ,aP,and_true] at T
   exact T.symm
end
structure Tb where
 bt:Nat
 bE:Nat
 bS:Nat
 rows:Nat
 cols:Nat
 cE:Nat
 cS:Nat
structure Tab (h g o:aE) (T:Tb) (M:Nat->Nat->Int) (S:Nat->Rat):Prop where
 sep:Sep h g o
 n1:T.bt≠T.bE
 n2:T.bt≠T.bS
 n3:T.bE≠T.bS
 head:∃ e,o T.bt=some (.cells #[I T.cols,.slice (some ⟨T.bE,0,none⟩) (T.rows*T.cols) T.cE,.slice (some ⟨T.bS,0,none⟩) T.rows T.cS] e)
 elems:∃ ws:List IV,RowB o T.bE ws/\ws.length=T.rows*T.cols/\∀ i j,i<T.rows->j<T.cols->∃ w,ws[i*T.cols+j]? = some w/\ZIr g w (M i j)
 scales:∃ ss:List QV,RowB o T.bS ss/\ss.length=T.rows/\Row RQr g ss T.rows S
 cE:T.rows*T.cols<=T.cE
 cS:T.rows<=T.cS
 small:T.rows<=10000/\T.cols<=10000
 pos:0<T.cols
def C31(M:Nat->Nat->Int)(i j:Nat)(z:Int):Nat->Nat->Int:=fun a b=>if a=i/\b=j then z else M a b
def O2{rows cols i j:Nat}(hi:i<rows)(hj:j<cols):i*cols+j<rows*cols:=by
 have:(i+1)*cols<=rows*cols:=aF _ hi
 rw [aL,aQ] at this
 omega
def C1j{cols i j i' j':Nat}(hj:j<cols)(hj':j'<cols)(h:i*cols+j=i'*cols+j'):i=i'/\j=j':=by
 have a:(i*cols+j)/cols=i:=by rw [bJ,cP (by omega),cM hj,cF]
 have b:(i'*cols+j')/cols=i':=by rw [bJ,cP (by omega),cM hj',cF]
 have:i=i':=by rw [<- a,<- b,h]
 subst this
 exact ⟨rfl,by omega⟩
section
variable {h g o:aE} {T:Tb} {M:Nat->Nat->Int} {S:Nat->Rat} {K:VP} {m:Nat}
def Tab.next(t:Tab h g o T M S){h' g':aE}(s:Sep h' g' o)(l:g.le g'):Tab h' g' o T M S:=by
 refine ⟨s,t.n1,t.n2,t.n3,t.head,?_,?_,t.cE,t.cS,t.small,t.pos⟩
 ·obtain ⟨c,r,b,a⟩:=t.elems
  refine ⟨c,r,b,fun i j d m=>?_⟩
  obtain ⟨w,e,k⟩:=a i j d m
  exact ⟨w,e,Fz _ _ _ _ l k⟩
 ·obtain ⟨f,r,b,a⟩:=t.scales
  exact ⟨f,r,b,a.mono I8 l⟩
def Tab.congr(t:Tab h g o T M S){M':Nat->Nat->Int}{S':Nat->Rat}(hM:∀ i j,i<T.rows->j<T.cols->M i j=M' i j)(hS:∀ i,i<T.rows->S i=S' i):Tab h g o T M' S':=by
 refine ⟨t.sep,t.n1,t.n2,t.n3,t.head,?_,?_,t.cE,t.cS,t.small,t.pos⟩
 ·obtain ⟨e,r,b,a⟩:=t.elems
  refine ⟨e,r,b,fun i j c d=>?_⟩
  rw [<- hM i j c d];exact a i j c d
 ·obtain ⟨f,r,b,a⟩:=t.scales
  exact ⟨f,r,b,a.congr hS⟩
def Tab.c0(t:Tab h g o T M S):h.cell? (aC ⟨T.bt,0,none⟩ 0)=some (I T.cols):=by
 obtain ⟨e,a⟩:=t.head
 refine t.sep.cell ?_
 rw [E6];unfold Heap.cell?;simp only [a];rfl
def Tab.c1(t:Tab h g o T M S):h.cell? (aC ⟨T.bt,0,none⟩ 1)=some (.slice (some ⟨T.bE,0,none⟩) (T.rows*T.cols) T.cE):=by
 obtain ⟨e,a⟩:=t.head
 refine t.sep.cell ?_
 rw [E6];unfold Heap.cell?;simp only [a];rfl
def Tab.c2(t:Tab h g o T M S):h.cell? (aC ⟨T.bt,0,none⟩ 2)=some (.slice (some ⟨T.bS,0,none⟩) T.rows T.cS):=by
 obtain ⟨e,a⟩:=t.head
 refine t.sep.cell ?_
 rw [E6];unfold Heap.cell?;simp only [a];rfl
def Tab.at(t:Tab h g o T M S){i j:Nat}(hi:i<T.rows)(hj:j<T.cols):∃ w:IV,ZIr g w (M i j)/\h.cell? (aC (aC ⟨T.bE,i*T.cols*2,none⟩ (j*2)) 0)=some (.bool w.s)/\h.cell? (aC (aC ⟨T.bE,i*T.cols*2,none⟩ (j*2)) 1)=some (.slice w.A w.n w.c):=by
 obtain ⟨f,r,m,l⟩:=t.elems
 obtain ⟨w,e,k⟩:=l i j hi hj
 have d:=O2 hi hj
 have a:f[i*T.cols+j]=w:=by
  rw [aH (by omega)] at e
  cases e;rfl
 have b:i*T.cols*2+j*2=(i*T.cols+j)*2:=by rw [aL]
 refine ⟨w,k,t.sep.cell ?_,t.sep.cell ?_⟩
 ·rw [E6,E6,b]
  exact r.cell (i:=i*T.cols+j) (by omega) (j:=0) (v:=.bool w.s) (by rw [a];rfl)
 ·rw [E6,E6,b]
  exact r.cell (i:=i*T.cols+j) (by omega) (j:=1) (v:=.slice w.A w.n w.c) (by rw [a];rfl)
def Tab.ato(t:Tab h g o T M S){i j:Nat}(hi:i<T.rows)(hj:j<T.cols):∃ w:IV,ZIr g w (M i j)/\o.cell? (aC (aC ⟨T.bE,i*T.cols*2,none⟩ (j*2)) 0)=some (.bool w.s)/\o.cell? (aC (aC ⟨T.bE,i*T.cols*2,none⟩ (j*2)) 1)=some (.slice w.A w.n w.c):=by
 obtain ⟨f,r,m,l⟩:=t.elems
 obtain ⟨w,e,k⟩:=l i j hi hj
 have d:=O2 hi hj
 have a:f[i*T.cols+j]=w:=by
  rw [aH (by omega)] at e
  cases e;rfl
 have b:i*T.cols*2+j*2=(i*T.cols+j)*2:=by rw [aL]
 refine ⟨w,k,?_,?_⟩
 ·rw [E6,E6,b]
  exact r.cell (i:=i*T.cols+j) (by omega) (j:=0) (v:=.bool w.s) (by rw [a];rfl)
 ·rw [E6,E6,b]
  exact r.cell (i:=i*T.cols+j) (by omega) (j:=1) (v:=.slice w.A w.n w.c) (by rw [a];rfl)
def Sep.le_le{h' g':aE}(s:Sep h g o)(s':Sep h' g' o)(l:g.le g'):h.le h':=fun k x e=>by
 cases ho:o k with
 | some y=>rw [s.own k y ho] at e;rw [s'.own k y ho];exact e
 | none=>rw [s.rest k ho] at e;rw [s'.rest k ho];exact l k x e
def Tab.sat(t:Tab h g o T M S){i:Nat}(hi:i<T.rows):∃ w:QV,RQ g w (S i)/\h.cell? (aC (aC ⟨T.bS,0,none⟩ (i*4)) 0)=some (.bool w.s)/\h.cell? (aC (aC ⟨T.bS,0,none⟩ (i*4)) 1)=some (.slice w.A w.n w.c)/\h.cell? (aC (aC ⟨T.bS,0,none⟩ (i*4)) 2)=some (.bool w.s2)/\h.cell? (aC (aC ⟨T.bS,0,none⟩ (i*4)) 3)=some (.slice w.A2 w.n2 w.c2):=by
 obtain ⟨b,r,m,l⟩:=t.scales
 obtain ⟨w,e,f⟩:=l i hi
 have a:b[i]=w:=by
  rw [aH (by omega)] at e
  cases e;rfl
 have cell:∀ k v,(enc w)[k]? = some v->h.cell? (aC (aC ⟨T.bS,0,none⟩ (i*4)) k)=some v:=by
  intro k v d
  refine t.sep.cell ?_
  rw [E6,E6,aN]
  exact r.cell (i:=i) (by omega) (j:=k) (by rw [a];exact d)
 exact ⟨w,f,cell 0 _ rfl,cell 1 _ rfl,cell 2 _ rfl,cell 3 _ rfl⟩
def Tab.store(t:Tab h g o T M S){i j:Nat}(hi:i<T.rows)(hj:j<T.cols){w:IV}{z:Int}(hz:ZIr g w z){K:Unit->aE->Prop}
 (x:∀ h' o',Tab h' g o' T (C31 M i j z) S->(∀ k,k≠T.bE->o' k=o k)->K () h'):wpH prog (aO Fn (.pointer (some (aC ⟨T.bE,i*T.cols*2,none⟩ (j*2)))) w.v) K h:=by
 obtain ⟨L,r,J,A⟩:=t.elems
 have C:=O2 hi hj
 have H:i*T.cols*2+j*2=(i*T.cols+j)*2:=by rw [aL]
 rw [E6,H]
 refine Sep.store (E:=inferInstanceAs (Enc IV)) Ua (v:=w.v) (y:=w) rfl t.sep r (i:=i*T.cols+j) (by omega) rfl ?_
 intro h' o' N f B n
 refine x h' o' ⟨B,t.n1,t.n2,t.n3,?_,⟨_,n,by simpa using J,fun a b l m=>?_⟩,?_,t.cE,t.cS,t.small,t.pos⟩ (fun k s=>by rw [f,B9 _ _ s])
 ·obtain ⟨e,p⟩:=t.head
  exact ⟨e,by rw [f,B9 _ _ t.n1];exact p⟩
 ·unfold C31
  by_cases e:a=i/\b=j
  ·obtain ⟨rfl,rfl⟩:=e
   exact ⟨w,by rw [bL (by omega)],by rw [iP ⟨rfl,rfl⟩];exact hz⟩
  ·obtain ⟨u,q,G⟩:=A a b l m
   refine ⟨u,?_,by rw [iN e];exact G⟩
   rw [bB (fun x=>e (by have:=C1j hj m x;exact ⟨this.1.symm,this.2.symm⟩))]
   exact q
 ·obtain ⟨F,D,d,c⟩:=t.scales
  exact ⟨F,by rw [f];exact D.other t.n3.symm _,d,c⟩
def Tab.sstore(t:Tab h g o T M S){i:Nat}(hi:i<T.rows){w:QV}{q:Rat}(hz:RQ g w q){K:Unit->aE->Prop}
 (x:∀ h' o',Tab h' g o' T M (fun a=>if a=i then q else S a)->(∀ k,k≠T.bS->o' k=o k)->K () h'):wpH prog (aO G2 (.pointer (some (aC ⟨T.bS,0,none⟩ (i*4)))) w.v) K h:=by
 obtain ⟨A,r,p,n⟩:=t.scales
 rw [E6,aN]
 refine Sep.store (E:=inferInstanceAs (Enc QV)) Nf (v:=w.v) (y:=w) rfl t.sep r (i:=i) (by omega) rfl ?_
 intro h' o' z b s f
 refine x h' o' ⟨s,t.n1,t.n2,t.n3,?_,?_,⟨_,f,by simpa using p,Row.upd n (by omega) hz⟩,t.cE,t.cS,t.small,t.pos⟩ (fun k m=>by rw [b,B9 _ _ m])
 ·obtain ⟨e,j⟩:=t.head
  exact ⟨e,by rw [b,B9 _ _ t.n2];exact j⟩
 ·obtain ⟨l,u,c,d⟩:=t.elems
  exact ⟨l,by rw [b];exact u.other t.n3 _,c,d⟩
def K3{n:Nat}(h:n<=9223372036854775807):B7 (n:Int)=(n:Int):=C0 (by omega) (by omega)
def O4(t:Tab h g o T M S){i:Nat}(hi:i<T.rows)(hK:K (.slice (some ⟨T.bE,i*T.cols*2,none⟩) T.cols (T.cE-i*T.cols)) h):aV prog Y9 #[.pointer (some ⟨T.bt,0,none⟩),I (i:Int)] h K:=by
 refine C2s _ _ ?_
 unfold C7l
 have a:=t.small
 have f:=t.pos
 have k:(i+1)*T.cols<=T.rows*T.cols:=aF _ hi
 have l:T.rows*T.cols<=10000*10000:=cH a.1 a.2
 have j:=t.cE
 have d:(i+1)*T.cols=i*T.cols+T.cols:=by rw [aL,aQ]
 have e:B7 ((i:Int)*(T.cols:Int))=((i*T.cols:Nat):Int):=by rw [<- bF];exact K3 (by omega)
 have b:B7 ((i:Int)+1)=((i+1:Nat):Int):=C0 (by omega) (by omega)
 have c:B7 (B7 ((i:Int)+1)*(T.cols:Int))=(((i+1)*T.cols:Nat):Int):=by rw [b,<- bF];exact K3 (by omega)
 refine ⟨_,rfl,_,_,_,t.c1,_,rfl,_,t.c0,_,rfl,_,t.c0,?_⟩
 rw [e,c]
 refine ⟨⟨by omega,by omega⟩,⟨by omega,by simp only [aY];omega⟩,?_⟩
 simp only [aY]
 rw [Vw (by omega),E6,aN,d,cW]
 exact hK
def B3j(t:Tab h g o T M S){start col:Nat}(hs:start<=T.rows)(hc:col<T.cols)
 (hK1:fnd (fun i=>decide (M i col≠0)) (T.rows-start) start<T.rows->K (.tuple #[I ((fnd (fun i=>decide (M i col≠0)) (T.rows-start) start:Nat):Int),.bool true]) h)
 (hK0:fnd (fun i=>decide (M i col≠0)) (T.rows-start) start=T.rows->K (.tuple #[I 0,.bool false]) h):aV prog A6n #[.pointer (some ⟨T.bt,0,none⟩),I (start:Int),I (col:Int)] h K:=by
 refine B8z _ _ _ ?_
 unfold C50
 refine ⟨fun L f=>∃ k:Nat,k<=T.rows/\L=[I k]/\f=h/\start<=k/\∀ j,start<=j->j<k->decide (M j col≠0)=false,fun L _=>T.rows-(iAt L 0).toNat,⟨start,hs,rfl,rfl,aG _,fun j b l=>by omega⟩,?_⟩
 rintro i f ⟨k,z,p,rfl,c,d⟩
 obtain rfl:=sI1 p
 refine ⟨_,rfl,_,_,_,t.c2,B8 (fun m=>?_) (fun q=>?_)⟩
 ·have a:k<T.rows:=by omega
  refine O4 t a ⟨_,_,_,rfl,_,rfl,by omega,by omega,?_⟩
  obtain ⟨w,u,s,r⟩:=t.at a hc
  refine ⟨_,_,_,_,s,r,F5 (u.mono t.sep.le) ⟨_,rfl,Br.not (B8 (fun e=>?_) (fun e=>?_))⟩⟩
  ·rw [show B7 ((k:Int)+1)=((k+1:Nat):Int) by have:=t.small;rw [C0]<;>omega]
   refine ⟨⟨k+1,by omega,rfl,rfl,by omega,fun j b l=>?_⟩,by simp only [U9];omega⟩
   by_cases n:j=k
   ·subst n;simp [e]
   ·exact d j b (by omega)
  ·have:fnd (fun i=>decide (M i col≠0)) (T.rows-start) start=k:=A86 _ c (by omega) d (fun _=>by simpa using e)
   rw [this] at hK1
   exact hK1 a
 ·have:fnd (fun i=>decide (M i col≠0)) (T.rows-start) start=T.rows:=A86 _ hs (by omega) (fun j b l=>d j b (by omega)) (fun y=>by omega)
  exact hK0 this
def A32(t:Tab h g o T M S){i k:Nat}(hi:i<T.rows)(hk:k<T.rows)(hik:i≠k)
 (hK:∀ h' o',Tab h' g o' T (fun a=>M (xch i k a)) (fun a=>S (xch i k a))->(∀ b,b≠T.bE->b≠T.bS->o' b=o b)->K (.tuple #[]) h'):aV prog A1j #[.pointer (some ⟨T.bt,0,none⟩),I (i:Int),I (k:Int)] h K:=by
 refine B8y _ _ _ ?_
 unfold C4z
 refine O4 t hi ⟨_,_,_,rfl,O4 t hk ⟨_,_,_,rfl,?_⟩⟩
 refine ⟨fun L J=>∃ (c:Nat) (E:aE),c<=T.cols/\L=[I c]/\Tab J g E T (fun a b=>if b<c then M (xch i k a) b else M a b) S/\∀ b,b≠T.bE->E b=o b,fun L _=>T.cols-(iAt L 0).toNat,⟨0,o,by omega,rfl,t.congr (fun a b _ _=>by rw [iN (by omega)]) (fun _ _=>rfl),fun _ _=>rfl⟩,?_⟩
 rintro z J ⟨c,E,hc,Z,t1,m⟩
 obtain rfl:=sI1 Z
 refine B8 (fun R=>?_) (fun aa=>?_)
 ·have d:c<T.cols:=by omega
  obtain ⟨G,n,r,C⟩:=t1.at hk d
  obtain ⟨D,p,q,s⟩:=t1.at hi d
  rw [iN (aU c)] at n p
  refine ⟨_,rfl,by omega,by omega,_,_,_,_,r,C,_,rfl,by omega,by omega,_,_,_,_,q,s,_,rfl,by omega,by omega,?_⟩
  refine t1.store hi d (w:=G) n ?_
  intro W N F e
  refine ⟨_,rfl,by omega,by omega,?_⟩
  refine F.store hk d (w:=D) p ?_
  intro H y B f
  rw [show B7 ((c:Int)+1)=((c+1:Nat):Int) by have:=t.small;rw [C0]<;>omega]
  refine ⟨⟨c+1,y,by omega,rfl,B.congr (fun a b _ _=>?_) (fun _ _=>rfl),fun b j=>by rw [f b j,e b j,m b j]⟩,by simp only [U9];omega⟩
  show (if a=k/\b=c then M i c else if a=i/\b=c then M k c else if b<c then M (xch i k a) b else M a b)=if b<c+1 then M (xch i k a) b else M a b
  unfold xch
  grind
 ·have A:c=T.cols:=by omega
  subst A
  obtain ⟨G,n,r,C,X,V⟩:=t1.sat hk
  obtain ⟨D,p,q,s,O,Q⟩:=t1.sat hi
  refine ⟨_,rfl,_,_,_,t1.c2,_,rfl,_,_,_,t1.c2,_,rfl,_,_,_,t1.c2,_,rfl,by omega,by omega,_,_,_,_,_,_,_,_,r,C,X,V,_,rfl,_,_,_,t1.c2,_,rfl,by omega,by omega,_,_,_,_,_,_,_,_,q,s,O,Q,_,rfl,by omega,by omega,?_⟩
  refine t1.sstore hi (w:=G) n ?_
  intro W N F e
  refine ⟨_,rfl,by omega,by omega,?_⟩
  refine F.sstore hk (w:=D) p ?_
  intro H y B f
  refine hK H y (B.congr (fun a b _ j=>by rw [iP j]) (fun a _=>?_)) (fun b u l=>by rw [f b l,e b l,m b u])
  show (if a=k then S i else if a=i then S k else S a)=S (xch i k a)
  unfold xch
  grind
end
def Wa{P:cC}{t:aZ}{v:bD}{K:VP}{h:aE}(x:∀ b,h b=none->K (.pointer (some ⟨b,0,none⟩)) (h.put b (.cells v.cells t))):wpH P (Instr.box t v) K h:=by
 unfold Instr.box newVar
 simp only [C8,S7,H1]
 exact x
def B2e{m k:Nat}(hm:1<=m)(hk:k<4611686018427387904):(k:Int)*2^(2*m)<b64^m:=by
 have e:b64^m=(2:Int)^(2*m)*2^(62*m):=by
  have:b64=(2:Int)^64:=by decide
  rw [this,<- Int.pow_mul,<- Int.pow_add]
  congr 1;omega
 have b:(2:Int)^62<=2^(62*m):=D4 (by decide) (by omega)
 have c:(k:Int)<2^62:=by
  have:(2:Int)^62=4611686018427387904:=by decide
  rw [this];omega
 have a:(0:Int)<2^(2*m):=Int.pow_pos (by decide)
 rw [e,Int.mul_comm]
 exact Int.mul_lt_mul_of_pos_left (Int.lt_of_lt_of_le c b) a
def A64{m:Nat}{x y:Int}(hx:ZB m x)(hy:ZB m y):((x*y).natAbs:Int)<=2^(2*m):=by
 have:=hx.mul hy
 unfold ZB at this
 have e:m+m=2*m:=by omega
 rw [e] at this
 have:((x*y).natAbs:Int)<((2^(2*m):Nat):Int):=by omega
 rw [Int.natCast_pow] at this
 exact Int.le_of_lt this
section
variable {h g o:aE} {T:Tb} {M:Nat->Nat->Int} {S:Nat->Rat} {K:VP} {m:Nat}
def A7p:(prog.info? Ku).map (·.zero)=some (some (.agg #[.slice none 0 0,.slice none 0 0])):=by kernel_rfl
def Yy(t:Tab h g o T M S){i p c:Nat}{wb:IV}{d:Int}(hi:i<T.rows)(hp':p<T.rows)(hip:i≠p)(hc:c<T.cols)(ib:ZIr g wb d)(hd:d≠0)(hm1:1<=m)(hm:2*m+1<=100000000)(hMi:∀ b,b<T.cols->ZB m (M i b))(hMp:∀ b,b<T.cols->ZB m (M p b))(hdb:ZB m d)
 (hK:∀ h' g' o',g.le g'->Tab h' g' o' T (fun a b=>if a=i then (M p c*M i b-M i c*M p b).tdiv d else M a b) S->(∀ b,b≠T.bE->o' b=o b)->K (.tuple #[]) h'):aV prog Tm #[.pointer (some ⟨T.bt,0,none⟩),I (i:Int),I (p:Int),I (c:Int),wb.v] h K:=by
 refine B6b _ _ _ _ _ _ _ _ ?_
 unfold C0r
 refine O4 t hi ⟨_,_,_,rfl,O4 t hp' ⟨_,_,_,rfl,?_⟩⟩
 obtain ⟨wf,Z,f0,f1⟩:=t.at hi hc
 refine ⟨_,rfl,by omega,by omega,_,_,_,_,f0,f1,?_⟩
 refine ⟨fun L V=>∃ (k:Nat) (f q:aE),k<=T.cols/\L=[I k]/\g.le f/\Tab V f q T (fun a b=>if a=i/\b<k then (M p c*M i b-M i c*M p b).tdiv d else M a b) S/\∀ b,b≠T.bE->q b=o b,fun L _=>T.cols-(iAt L 0).toNat,⟨0,g,o,by omega,rfl,B5 _,t.congr (fun a b _ _=>by rw [iN (by omega)]) (fun _ _=>rfl),fun _ _=>rfl⟩,?_⟩
 rintro z X ⟨k,f,q,hk,eL,G,t1,F⟩
 obtain rfl:=sI1 eL
 have ew:B7 ((k:Int)+1)=((k+1:Nat):Int):=by have:=t.small;rw [C0]<;>omega
 refine B8 (fun ae=>?_) (fun af=>?_)
 ·have j:k<T.cols:=by omega
  obtain ⟨w1,Q,d0,d1⟩:=t1.at hi j
  rw [iN (by omega)] at Q
  have same:(M p c*M i k-M i c*M p k).tdiv d=M i k->(∃ (k':Nat) (f q:aE),k'<=T.cols/\[I (B7 ((k:Int)+1))]=[I k']/\g.le f/\Tab X f q T (fun a b=>if a=i/\b<k' then (M p c*M i b-M i c*M p b).tdiv d else M a b) S/\∀ b,b≠T.bE->q b=o b)/\T.cols-(iAt [I (B7 ((k:Int)+1))] 0).toNat<T.cols-(iAt [I (k:Int)] 0).toNat:=by
   intro e
   rw [ew]
   refine ⟨⟨k+1,f,q,by omega,rfl,G,t1.congr (fun a b _ _=>?_) (fun _ _=>rfl),F⟩,by simp only [U9];omega⟩
   by_cases l:a=i/\b<k
   ·rw [iP l,iP ⟨l.1,by omega⟩]
   ·rw [iN l]
    by_cases h2:a=i/\b<k+1
    ·obtain ⟨rfl,h3⟩:=h2
     have:b=k:=by omega
     subst this
     rw [iP ⟨rfl,by omega⟩,e]
    ·rw [iN h2]
  refine ⟨_,rfl,by omega,by omega,_,_,_,_,d0,d1,fun L V=>V=X,?_,?_⟩
  ·refine F5 (Q.mono t1.sep.le) ⟨_,rfl,B8 (fun e1=>?_) (fun _=>rfl)⟩
   refine F5 (Z.mono (B0 G t1.sep.le)) ⟨_,rfl,B8 (fun e2=>same (by rw [e1,e2];simp)) (fun _=>?_)⟩
   obtain ⟨w2,H,c0,c1⟩:=t1.at hp' j
   rw [iN (by omega)] at H
   refine ⟨_,rfl,by omega,by omega,_,_,_,_,c0,c1,F5 (H.mono t1.sep.le) ⟨_,rfl,B8 (fun e3=>same (by rw [e1,e3];simp)) (fun _=>rfl)⟩⟩
  ·rintro V rfl
   refine Gv A7p ?_
   intro bs s
   have ad:f bs=none:=by
    cases hx:f bs with
    | none=>rfl
    | some y=>rw [t1.sep.le _ _ hx] at s;cases s
   have W:=t1.sep.vis s (.cells #[.slice none 0 0,.slice none 0 0] Ku)
   have Z0:SumS (f.put bs (.cells #[.slice none 0 0,.slice none 0 0] Ku)) f bs Ku 200000001 0 0:=SumS.zero ad
   obtain ⟨w3,z3,a0,a1⟩:=t1.ato hp' hc
   obtain ⟨w2,H,c0,c1⟩:=t1.ato hp' j
   rw [iN (by omega)] at H z3
   have R:∀ {gg:aE} {w:IV} {x:Int},ZIr gg w x->ZB m x->w.n<=100000000:=fun i b=>ZI.len i b (by omega)
   have A:=hMp c hc
   have C:=hMi k j
   have E:=hMi c hc
   have B:=hMp k j
   have q1:=A64 A C
   have q2:=A64 E B
   have q0:=B2e (m:=m) (k:=2) hm1 (by omega)
   have l3:=R z3 A
   have l1:=R Q C
   have lf:=R Z E
   have l2:=R H B
   refine ⟨_,rfl,_,rfl,by omega,by omega,_,_,_,_,W.cell a0,W.cell a1,?_⟩
   refine W.call (Bk Z0 z3 Q (by omega) (by omega) (N1:=m) (by omega) (by omega) ?_)
   intro G3 g3 D Z3 H3 s3
   refine ⟨rfl,_,rfl,by omega,by omega,_,_,_,_,s3.cell c0,s3.cell c1,?_⟩
   refine s3.call (Sh Z3 (Z.mono (B0 G D)) (H.mono D) (by omega) (by omega) (N1:=m) (by omega) (by omega) ?_)
   intro G4 g4 aa Z4 H4 s4
   refine ⟨rfl,s4.call (Ng Z4 (by omega) ?_)⟩
   intro sv Av nv cv G5 N z5 H5 s5
   rw [Int.zero_add] at z5
   refine ⟨_,_,_,_,rfl,s4.le_le s5 N,?_⟩
   have u:f.le G5:=B0 D (B0 aa (B0 Z4.le N))
   have bz:ZB (2*m+1) (M p c*M i k-M i c*M p k):=((A.mul C).sub (E.mul B)).mono (by omega)
   refine s5.call (R5 z5 (ib.mono (B0 G u)) bz (hdb.mono (by omega)) (by omega) hd ?_)
   intro s6 A6 n6 c6 G6 r z6 H6 J
   refine ⟨_,_,_,_,rfl,s5.le_le J r,_,rfl,by omega,by omega,?_⟩
   have t6:=t1.next J (B0 u r)
   refine t6.store hi j (w:=⟨s6,A6,n6,c6⟩) z6 ?_
   intro H7 o7 t7 ac
   rw [ew]
   refine ⟨⟨k+1,G6,o7,by omega,rfl,B0 G (B0 u r),t7.congr (fun a b _ _=>?_) (fun _ _=>rfl),fun b O=>by rw [ac b O,F b O]⟩,by simp only [U9];omega⟩
   show (if a=i/\b=k then (M p c*M i k-M i c*M p k).tdiv d else if a=i/\b<k then (M p c*M i b-M i c*M p b).tdiv d else M a b)=_
   grind
 ·have ab:k=T.cols:=by omega
  subst ab
  exact hK X f q G (t1.congr (fun a b _ O=>by
   by_cases l:a=i
   ·rw [iP ⟨l,O⟩,iP l]
   ·rw [iN (fun x=>l x.1),iN l]) (fun _ _=>rfl)) F
def A7q(n:Nat)(s:PS)(h:s.cs=[]):∀ c,(Da n s c).cs.length<=c:=by
 intro c
 induction c with
 | zero=>show s.cs.length<=0;rw [h];exact aG _
 | succ c ih=>
  show (Dz n c (Da n s c)).cs.length<=c+1
  unfold Dz
  split
  ·show ((Da n s c).cs++[c]).length<=c+1
   rw [aD]
   exact Nat.succ_le_succ ih
  ·omega
def A38(n:Nat)(s:PS)(h:s.last≠0)(hs:s.sgn=1\/s.sgn= -1)(hl:s.cs.length<=n):∀ c,(Da n s c).last≠0/\((Da n s c).sgn=1\/(Da n s c).sgn= -1)/\(Da n s c).cs.length<=n:=by
 intro c
 induction c with
 | zero=>exact ⟨h,hs,hl⟩
 | succ c ih=>
  obtain ⟨e,d,b⟩:=ih
  show (Dz n c (Da n s c)).last≠0/\((Dz n c (Da n s c)).sgn=1\/(Dz n c (Da n s c)).sgn= -1)/\(Dz n c (Da n s c)).cs.length<=n
  have f:=A5x n c (Da n s c) b
  unfold Dz
  by_cases a:Sj n c (Da n s c)<n
  ·rw [iP a]
   have:=A0x (fun i=>decide ((Da n s c).M i c≠0)) (n-(Da n s c).cs.length) (Da n s c).cs.length (by unfold Sj at a;omega)
   refine ⟨by simpa [Sj] using this,?_,?_⟩
   ·show (if Sj n c (Da n s c)=(Da n s c).cs.length then (Da n s c).sgn else -(Da n s c).sgn)=1\/(if Sj n c (Da n s c)=(Da n s c).cs.length then (Da n s c).sgn else -(Da n s c).sgn)= -1
    split<;>omega
   ·show ((Da n s c).cs++[c]).length<=n
    rw [aD]
    simp only [List.length_cons,List.length_nil]
    omega
  ·rw [iN a];exact ⟨e,d,b⟩
def L7{α:Type}[E:Enc α]{P:cC}{t e ty:aZ}{z:bD}{bytes:Nat}(st:SliceT P t e z E.default.size bytes){h g o:aE}{A:Option aI}{c n:Nat}{xs:List α}(s:Sep h g o)(w:OwnSl o e A c xs)(hxn:n=xs.length){v:bD}{y:α}(hv:v.cells=(enc y).toArray)(hsz:E.default.size<=1000)
 (hb:(2*(xs.length+1)+192)*bytes<=281474976710656) (hn:xs.length+1<=9223372036854775807) {K:Option aI->Nat->Nat->aE->Prop}
 (x:∀ A' c' h' g' o',g.le g'->Sep h' g' o'->OwnSl o' e A' c' (xs++[y])->(∀ k u,o k=some u->A≠some ⟨k,0,none⟩->o' k=some u/\A'≠some ⟨k,0,none⟩)->K A' (xs.length+1) c' h'):
 wpH P (bC t 1 #[(0,v)]) (fun v' hp=>∃ (B:Option aI) (m d:Nat),v'= .slice B m d/\wpH P (aS #[t,t] ty #[.slice A n c,.slice B m d]) (fun v1 hp1=>∃ (A':Option aI) (n' c':Nat),v1= .slice A' n' c'/\K A' n' c' hp1) hp) h:=by
 subst hxn
 refine Jk _ (OwnSl.push (ty:=ty) st s w hv hsz hb hn (K1:=fun _=>True) (K:=K) (fun _ _=>trivial) x) ?_
 rintro v' hp ⟨B,m,d,e,_,a⟩
 exact ⟨B,m,d,e,a⟩
def Tab.own(t:Tab h g o T M S):(∃ x,o T.bt=some x)/\(∃ x,o T.bE=some x)/\∃ x,o T.bS=some x:=by
 obtain ⟨e,a⟩:=t.head
 obtain ⟨f,⟨l,k,b⟩,_⟩:=t.elems
 obtain ⟨j,⟨i,d,c⟩,_⟩:=t.scales
 exact ⟨⟨_,a⟩,⟨_,b⟩,⟨_,c⟩⟩
def Tab.keep(t:Tab h g o T M S){h' g' o':aE}(s:Sep h' g' o')(l:g.le g')(hk:∀ k x,o k=some x->k=T.bt\/k=T.bE\/k=T.bS->o' k=some x):Tab h' g' o' T M S:=by
 refine ⟨s,t.n1,t.n2,t.n3,?_,?_,?_,t.cE,t.cS,t.small,t.pos⟩
 ·obtain ⟨e,d⟩:=t.head
  exact ⟨e,hk _ _ d (.inl rfl)⟩
 ·obtain ⟨n,⟨e,ex,a⟩,c,b⟩:=t.elems
  refine ⟨n,⟨e,ex,hk _ _ a (.inr (.inl rfl))⟩,c,fun i j m q=>?_⟩
  obtain ⟨w,e,p⟩:=b i j m q
  exact ⟨w,e,Fz _ _ _ _ l p⟩
 ·obtain ⟨f,⟨e,ex,a⟩,c,b⟩:=t.scales
  exact ⟨f,⟨e,ex,hk _ _ a (.inr (.inr rfl))⟩,c,b.mono I8 l⟩
abbrev zs(l:List Nat):List Int:=l.map fun (n:Nat)=>(n:Int)
def B90(T:Tb)(A:Option aI):Prop:=A≠some ⟨T.bt,0,none⟩/\A≠some ⟨T.bE,0,none⟩/\A≠some ⟨T.bS,0,none⟩
def A3e(t:Tab h g o T M S){c l nq:Nat}(hc:c<=T.cols)(hm1:1<=m)(hnq:∀ k,k<=c->(Da T.rows ⟨M,S,[],1,1⟩ k).cs.length<=nq)(hm:2*(3^nq*m)+1<=100000000)(hz:ZbP T.rows T.cols m l ⟨M,S,[],1,1⟩)
 (hK:∀ h' g' o' A cap w,g.le g'->Tab h' g' o' T (Da T.rows ⟨M,S,[],1,1⟩ c).M (Da T.rows ⟨M,S,[],1,1⟩ c).S->OwnSl o' F9 A cap (zs (Da T.rows ⟨M,S,[],1,1⟩ c).cs)->B90 T A->(∀ k x,o k=some x->k≠T.bE->k≠T.bS->o' k=some x/\A≠some ⟨k,0,none⟩)->ZIr g' w (Da T.rows ⟨M,S,[],1,1⟩ c).last->
  K (.tuple #[.slice A (Da T.rows ⟨M,S,[],1,1⟩ c).cs.length cap,w.v,I (Da T.rows ⟨M,S,[],1,1⟩ c).sgn]) h'):aV prog Is #[.pointer (some ⟨T.bt,0,none⟩),I (c:Int)] h K:=by
 refine B18 _ _ ?_
 unfold B66
 have a5:=t.small
 refine t.sep.call (Cv (by omega) (by omega) ?_)
 intro s1 A1 n1 c1 g1 l1 i1 h1 au
 have t1:=t.next au l1
 refine ⟨_,_,_,_,rfl,fun L hp=>∃ (k:Nat) (g' o':aE) (A:Option aI) (cap:Nat) (w:IV),k<=c/\L=[.slice A (Da T.rows ⟨M,S,[],1,1⟩ k).cs.length cap,I (Da T.rows ⟨M,S,[],1,1⟩ k).sgn,I k,.bool w.s,.slice w.A w.n w.c]/\g.le g'/\Tab hp g' o' T (Da T.rows ⟨M,S,[],1,1⟩ k).M (Da T.rows ⟨M,S,[],1,1⟩ k).S/\OwnSl o' F9 A cap (zs (Da T.rows ⟨M,S,[],1,1⟩ k).cs)/\B90 T A/\(∀ k x,o k=some x->k≠T.bE->k≠T.bS->o' k=some x/\A≠some ⟨k,0,none⟩)/\ZIr g' w (Da T.rows ⟨M,S,[],1,1⟩ k).last,
  fun L _=>c-(iAt L 2).toNat,⟨0,g1,o,none,0,⟨s1,A1,n1,c1⟩,by omega,rfl,l1,t1,(OwnSl.nil:OwnSl o F9 none 0 ([]:List Int)),⟨by simp,by simp,by simp⟩,fun k x e _ _=>⟨e,by simp⟩,i1⟩,?_⟩
 rintro pA pn pc a1 z ls lA ln lc hp ⟨k,g2,o2,A,cap,w,hk,eL,lg,t2,ow,E,ko,iw⟩
 simp only [aX,bU,bM,aT,true_and,and_true] at eL
 obtain ⟨⟨rfl,rfl,rfl⟩,rfl,rfl,rfl,rfl,rfl,rfl⟩:=eL
 have Q:=A38 T.rows ⟨M,S,[],1,1⟩ (show (1:Int)≠0 by decide) (.inl rfl) (bY _) k
 have az:=A7q T.rows ⟨M,S,[],1,1⟩ rfl k
 have R:=hz.run hm1 k (by omega)
 refine B8 (fun a3=>?_) (fun a4=>?_)
 ·have a7:k<c:=by omega
  have V:k<T.cols:=by omega
  have ew:B7 ((k:Int)+1)=((k+1:Nat):Int):=by rw [C0]<;>omega
  have F:Da T.rows ⟨M,S,[],1,1⟩ (k+1)=Dz T.rows k (Da T.rows ⟨M,S,[],1,1⟩ k):=rfl
  have ay:3^(Da T.rows ⟨M,S,[],1,1⟩ k).cs.length*m<=3^nq*m:=aF _ (cG (by decide) (hnq k (by omega)))
  have ad:=A7v (Da T.rows ⟨M,S,[],1,1⟩ k).cs.length m hm1
  generalize hst0:Da T.rows ⟨M,S,[],1,1⟩ k=st at *
  have H:fnd (fun i=>decide (st.M i k≠0)) (T.rows-st.cs.length) st.cs.length=Sj T.rows k st:=rfl
  have a6:=A5x T.rows k st Q.2.2
  refine B3j t2 Q.2.2 V (fun N=>?_) (fun N=>?_)
  ·rw [H] at N ⊢
   have d:Dz T.rows k st={ M:=clr (fun i=>st.M (xch st.cs.length (Sj T.rows k st) i)) st.cs.length k st.last,S:=fun i=>st.S (xch st.cs.length (Sj T.rows k st) i),cs:=st.cs++[k],last:=st.M (Sj T.rows k st) k,sgn:=if Sj T.rows k st=st.cs.length then st.sgn else-st.sgn }:=by unfold Dz;rw [iP N]
   generalize hr:Sj T.rows k st=r at *
   have C:st.cs.length<T.rows:=by omega
   refine ⟨_,_,rfl,fun L hq=>∃ (g3 J:aE),L=[I (if r=st.cs.length then st.sgn else-st.sgn)]/\g2.le g3/\Tab hq g3 J T (fun i=>st.M (xch st.cs.length r i)) (fun i=>st.S (xch st.cs.length r i))/\∀ b,b≠T.bE->b≠T.bS->J b=o2 b,?_,?_⟩
   ·refine I4 (fun am=>?_) (fun ak=>?_)
    ·have f:r≠st.cs.length:=by omega
     refine A32 t2 C N (fun e=>f e.symm) ?_
     intro h3 J t3 Z
     refine ⟨rfl,g2,J,?_,B5 _,t3,Z⟩
     rw [iN f]
     have:B7 (0-st.sgn)= - st.sgn:=by rw [C0]<;>omega
     rw [this]
    ·have q:r=st.cs.length:=by omega
     refine ⟨g2,o2,by rw [iP q],B5 _,t2.congr (fun i j _ _=>?_) (fun i _=>?_),fun _ _ _=>rfl⟩
     ·rw [q];unfold xch;grind
     ·rw [q];unfold xch;grind
   ·rintro al h4 ⟨g3,J,an,l3,t3,Z⟩
    obtain rfl:al=if r=st.cs.length then st.sgn else-st.sgn:=by simpa using an
    refine ⟨_,rfl,_,_,_,t3.c2,?_⟩
    have xk:xch st.cs.length r st.cs.length=r:=Ah _ _
    have ar:∀ i,i<T.rows->xch st.cs.length r i<T.rows:=fun i hi=>R6 C N hi
    refine ⟨fun L hq=>∃ (i:Nat) (g4 O:aE),i<=T.rows/\L=[I i]/\g3.le g4/\Tab hq g4 O T (fun a b=>if a<i/\a≠st.cs.length then clr (fun i=>st.M (xch st.cs.length r i)) st.cs.length k st.last a b else st.M (xch st.cs.length r a) b) (fun i=>st.S (xch st.cs.length r i))/\∀ b,b≠T.bE->O b=J b,fun L _=>T.rows-(iAt L 0).toNat,⟨0,g3,J,by omega,rfl,B5 _,t3.congr (fun a b _ _=>by rw [iN (by omega)]) (fun _ _=>rfl),fun _ _=>rfl⟩,?_⟩
    rintro zi h5 ⟨i,g4,O,hi,av,l4,t4,X⟩
    obtain rfl:=sI1 av
    have ab:B7 ((i:Int)+1)=((i+1:Nat):Int):=by rw [C0]<;>omega
    refine B8 (fun a2=>?_) (fun a0=>?_)
    ·have aa:i<T.rows:=by omega
     refine I4 (fun am=>?_) (fun ak=>?_)
     ·have f:i≠st.cs.length:=by omega
      refine Yy (m:=3^st.cs.length*m) t4 aa C f V (Fz _ _ _ _ (B0 l3 l4) iw) Q.1 ad (by omega) (fun b G=>?_) (fun b G=>?_) R.last ?_
      ·rw [iN (by omega)];exact R.M _ b (ar i aa) G
      ·rw [iN (by omega),xk];exact R.M r b N G
      intro h6 g6 o6 l6 t6 af
      refine ⟨rfl,?_⟩
      rw [ab]
      refine ⟨⟨i+1,g6,o6,by omega,rfl,B0 l4 l6,t6.congr (fun a b _ _=>?_) (fun _ _=>rfl),fun b G=>by rw [af b G,X b G]⟩,by simp only [U9];omega⟩
      show (if a=i then ((if st.cs.length<i/\st.cs.length≠st.cs.length then _ else st.M (xch st.cs.length r st.cs.length) k)*(if i<i/\i≠st.cs.length then _ else st.M (xch st.cs.length r i) b)-(if i<i/\i≠st.cs.length then _ else st.M (xch st.cs.length r i) k)*(if st.cs.length<i/\st.cs.length≠st.cs.length then _ else st.M (xch st.cs.length r st.cs.length) b)).tdiv st.last else if a<i/\a≠st.cs.length then clr (fun i=>st.M (xch st.cs.length r i)) st.cs.length k st.last a b else st.M (xch st.cs.length r a) b)=if a<i+1/\a≠st.cs.length then clr (fun i=>st.M (xch st.cs.length r i)) st.cs.length k st.last a b else st.M (xch st.cs.length r a) b
      rw [iN (show ¬ (st.cs.length<i/\st.cs.length≠st.cs.length) by omega),iN (show ¬ (i<i/\i≠st.cs.length) by omega),iN (show ¬ (i<i/\i≠st.cs.length) by omega),iN (show ¬ (st.cs.length<i/\st.cs.length≠st.cs.length) by omega)]
      by_cases ea:a=i
      ·subst ea
       rw [iP rfl,iP ⟨by omega,f⟩]
       unfold clr
       rw [iN f]
      ·rw [iN ea]
       by_cases D:a<i/\a≠st.cs.length
       ·rw [iP D,iP ⟨by omega,D.2⟩]
       ·rw [iN D,iN (by omega)]
     ·have q:i=st.cs.length:=by omega
      rw [ab]
      refine ⟨⟨i+1,g4,O,by omega,rfl,l4,t4.congr (fun a b _ _=>?_) (fun _ _=>rfl),X⟩,by simp only [U9];omega⟩
      by_cases D:a<i/\a≠st.cs.length
      ·rw [iP D,iP ⟨by omega,D.2⟩]
      ·rw [iN D,iN (by omega)]
    ·have aq:i=T.rows:=by omega
     subst aq
     have tF:Tab h5 g4 O T (clr (fun i=>st.M (xch st.cs.length r i)) st.cs.length k st.last) (fun i=>st.S (xch st.cs.length r i)):=t4.congr (fun a b ha _=>by
      by_cases D:a=st.cs.length
      ·rw [iN (by omega),D];unfold clr;rw [iP rfl]
      ·rw [iP ⟨ha,D⟩]) (fun _ _=>rfl)
     refine O4 tF C ⟨_,_,_,rfl,_,rfl,by omega,by omega,?_⟩
     obtain ⟨wl,zl,d0,d1⟩:=tF.at C V
     have aj:ZIr g4 wl (st.M r k):=by
      have:clr (fun i=>st.M (xch st.cs.length r i)) st.cs.length k st.last st.cs.length k=st.M r k:=by unfold clr;rw [iP rfl];show st.M (xch st.cs.length r st.cs.length) k=_;rw [xk]
      rw [this] at zl;exact zl
     refine ⟨_,_,_,_,d0,d1,?_⟩
     have u:∀ b,b≠T.bE->b≠T.bS->O b=o2 b:=fun b h1 h2=>by rw [X b h1,Z b h1 h2]
     have aw:OwnSl O F9 pA pc (zs st.cs):=ow.keep fun b x hA G=>by
      rw [u b (fun e=>E.2.1 (by rw [<- e];exact hA)) (fun e=>E.2.2 (by rw [<- e];exact hA))];exact G
     have B:(zs st.cs).length=st.cs.length:=by simp
     refine L7 (ty:=Fp) C37 tF.sep aw (by simp) (y:=((k:Nat):Int)) rfl (by decide) (by rw [B];omega) (by rw [B];omega) ?_
     intro A' c' h' g' o' W s' ah p
     obtain ⟨⟨x1,ao⟩,⟨x2,ae⟩,⟨x3,ax⟩⟩:=tF.own
     have t':=tF.keep s' W (fun kk x e ai=>by
      rcases ai with rfl|rfl|rfl
      ·exact (p _ _ e E.1).1
      ·exact (p _ _ e E.2.1).1
      ·exact (p _ _ e E.2.2).1)
     rw [B,ew]
     have ac:(st.cs++[k]).length=st.cs.length+1:=by simp
     refine ⟨⟨k+1,g',o',A',c',wl,by omega,?_,B0 lg (B0 l3 (B0 l4 W)),?_⟩,?_⟩
     ·rw [F,d,ac]
     ·rw [F,d]
      refine ⟨t',by simpa [zs] using ah,⟨(p _ _ ao E.1).2,(p _ _ ae E.2.1).2,(p _ _ ax E.2.2).2⟩,fun kk x e h1 h2=>?_,Fz _ _ _ _ W aj⟩
      obtain ⟨e2,ag⟩:=ko kk x e h1 h2
      exact p kk x (by rw [u kk h1 h2];exact e2) ag
     ·show c-((k+1:Nat):Int).toNat<c-((k:Nat):Int).toNat
      omega
  ·rw [H] at N
   have d:Dz T.rows k st=st:=by unfold Dz;rw [iN (by omega)]
   refine ⟨_,_,rfl,?_⟩
   rw [ew]
   refine ⟨⟨k+1,g2,o2,pA,pc,w,by omega,by rw [F,d],lg,?_⟩,?_⟩
   ·rw [F,d];exact ⟨t2,ow,E,ko,iw⟩
   ·show c-((k+1:Nat):Int).toNat<c-((k:Nat):Int).toNat
    omega
 ·have:k=c:=by omega
  subst this
  exact hK hp g2 o2 pA pc w lg t2 ow E ko iw
end
section
variable {h:aE} {K:VP} {A B:Option aI} {n c n' c' m:Nat} {s s':Bool} {x y:Int}
def C18:RQ h ⟨false,none,0,0,false,none,0,0⟩ 0:=⟨ZI.zero,ZI.zero⟩
def A7r{z:Int}(i:ZI h s A n c z):RQ h ⟨s,A,n,c,false,none,0,0⟩ (z:Rat):=⟨by simpa using i,by simpa using ZI.zero⟩
def T0(gl:Gtz h)(ix:ZI h s A n c x)(iy:ZI h s' B n' c' y)(hx:ZB m x)(hy:ZB m y)(hm:m<=6400000000)(hK:∀ w h',h.le h'->RQ h' w (bN x y)->K w.v h'):aV prog S0 #[.agg #[.bool s,.slice A n c],.agg #[.bool s',.slice B n' c']] h K:=by
 refine A4q _ _ _ _ _ _ _ _ ?_
 unfold A4r
 refine ⟨fun L N=>N=h/\((L=[.bool true]/\bN x y=0)\/(L=[.bool false]/\y≠0)),?_,?_⟩
 ·refine F5 iy ⟨_,rfl,B8 (fun e=>⟨rfl,.inl ⟨rfl,by rw [e];exact Rat.divInt_zero x⟩⟩) (fun e=>F5 ix ⟨_,rfl,rfl,?_⟩)⟩
  by_cases p:x=0
  ·exact .inl ⟨by rw [decide_eq_true p],by rw [p];exact Rat.zero_divInt y⟩
  ·exact .inr ⟨by rw [decide_eq_false p],e⟩
 rintro t N ⟨rfl,X⟩
 refine Br.of (fun e=>?_) (fun e=>?_)
 ·rcases X with ⟨_,T⟩|⟨j,_⟩
  ·rw [T] at hK
   exact hK _ _ (B5 _) C18
  ·simp at j;rw [e] at j;cases j
 have ad:y≠0:=by
  rcases X with ⟨j,_⟩|⟨_,T⟩
  ·simp at j;rw [e] at j;cases j
  ·exact T
 refine ⟨fun l z=>∃ s A n c s' B n' c' d f,l=[.bool s,.slice A n c,.bool s',.slice B n' c']/\N.le z/\ZI z s A n c d/\ZI z s' B n' c' f/\0<f/\bN d f=bN x y/\ZB m d/\ZB m f,?_,?_⟩
 ·refine Po iy ⟨_,rfl,B8 (fun e=>?_) (fun e=>?_)⟩
  ·have aa:y<0:=by rwa [Int.sign_neg_iff] at e
   refine Cw ix ?_
   intro W o
   refine ⟨_,_,_,_,rfl,B5 _,?_⟩
   refine Cw iy ?_
   intro V r
   exact ⟨_,_,_,_,rfl,B5 _,_,_,_,_,_,_,_,_,-x,-y,rfl,B5 _,o,r,by omega,Rat.neg_divInt_neg x y,hx.neg,hy.neg⟩
  ·have g:0<y:=by rw [Int.sign_neg_iff] at e;omega
   exact ⟨_,_,_,_,_,_,_,_,x,y,rfl,B5 _,ix,iy,g,rfl,hx,hy⟩
 rintro W A1 n1 c1 V A2 n2 c2 ab ⟨H,A1',R,F,S,A2',J,O,d,f,hl,i,o,r,g,z,D,k⟩
 obtain ⟨rfl,⟨rfl,rfl,rfl⟩,rfl,rfl,rfl,rfl⟩:W=H/\(A1=A1'/\n1=R/\c1=F)/\V=S/\A2=A2'/\n2=J/\c2=O:=by simpa using hl
 rw [<- z] at hK
 refine U7 r ⟨_,rfl,B8 (fun Z=>?_) (fun Z=>?_)⟩
 ·rw [Z,Ke] at hK
  exact hK _ _ i (A7r o)
 refine Cx (gl.mono i) o r D k hm ?_
 intro A3 n3 c3 h3 u G
 refine ⟨_,_,_,_,rfl,?_⟩
 generalize hqq:bN d f=q at *
 have a:q.num=d/(cQ d f:Int):=by
  rw [<- hqq,Rat.num_divInt,Int.sign_eq_one_of_pos g,Int.one_mul,Int.gcd_comm]
 have b:(q.den:Int)=f/(cQ d f:Int):=by
  rw [<- hqq,Rat.den_divInt,iN (by omega),Int.gcd_comm,Int.natCast_ediv,Int.natAbs_of_nonneg (by omega)]
 have ac:0<cQ d f:=Int.gcd_pos_of_ne_zero_right d (by omega)
 have C:ZB m (cQ d f:Int):=ZB.gcd (by omega) k
 refine U7 G ⟨_,rfl,Br.not (B8 (fun p=>?_) (fun p=>?_))⟩
 ·rw [p] at a b
  simp at a b
  refine U8 (q:=q) (o.mono u) (r.mono u) a b ?_
  intro w Q
  exact ⟨_,_,_,_,_,_,_,_,rfl,hK _ _ (B0 i u) Q⟩
 ·refine R5 (o.mono u) G D C hm (by omega) ?_
  intro s4 A4 n4 c4 h4 E i4
  refine ⟨_,_,_,_,rfl,E,?_⟩
  refine R5 ((r.mono u).mono E) (G.mono E) k C hm (by omega) ?_
  intro s5 A5 n5 c5 h5 M i5
  refine ⟨_,_,_,_,rfl,M,?_⟩
  refine U8 (q:=q) (i4.mono M) i5 (by rw [a,cX (Int.gcd_dvd_left d f)]) (by rw [b,cX (Int.gcd_dvd_right d f)]) ?_
  intro w Q
  exact ⟨_,_,_,_,_,_,_,_,rfl,hK _ _ (B0 i (B0 u (B0 E M))) Q⟩
end
section
variable {α:Type} [E:Enc α]
def OwnSl.store{P:cC}{t e:aZ}(one:P.cellsOf t=E.default.size/\(P.info? t).isSome=true){v:bD}{y:α}(hv:v.cells=(enc y).toArray){h g o:aE}{A:Option aI}{c:Nat}{xs:List α}(s:Sep h g o)(w:OwnSl o e A c xs){i b:Nat}(hi:i<xs.length)(hA:A=some ⟨b,0,none⟩){K:Unit->aE->Prop}
 (x:∀ h' o',Sep h' g o'->OwnSl o' e A c (xs.set i y)->(∀ k,k≠b->o' k=o k)->K () h'):wpH P (aO t (.pointer (some (aC ⟨b,0,none⟩ (i*E.default.size)))) v) K h:=by
 rcases w.2 with ⟨D,_⟩|⟨F,f,d,n,r,C⟩
 ·exfalso;have:=w.1;omega
 ·rw [hA] at d
  simp only [aJ,aP,and_true] at d
  subst d
  obtain ⟨ex,hex⟩:∃ ex,f=xs.flatMap enc++ex:=⟨f.drop (xs.length*E.default.size),by rw [<- C,List.take_append_drop]⟩
  rw [hex] at n r
  obtain ⟨u,j⟩:=Option.isSome_iff_exists.1 one.2
  have B:u.size=E.default.size:=by simpa [Program.cellsOf,j] using one.1
  have q:=E.default.len y
  have p:(i+1)*E.default.size<=xs.length*E.default.size:=aF _ hi
  rw [aL,aQ] at p
  have a:(h.without b).put b (.cells (xs.flatMap enc++ex).toArray e)=h:=N2 (s.own b _ n)
  unfold aO
  simp only [C8,Instr.sureAddr,H1,storeVar,M0 j,B,hv,List.size_toArray,q,ne_eq,not_true_eq_false,if_false]
  rw [E6,aN,<- a]
  refine J8 (enc y) (i*E.default.size) 0 _ (by rw [aD,L8,q];omega) (E.default.one y) ?_
  have m:L4 (xs.flatMap enc++ex) (i*E.default.size+0) (enc y)=(xs.set i y).flatMap enc++ex:=by
   rw [cF,<- A0y xs hi]
   unfold L4
   rw [cN (by rw [L8];omega),List.drop_append_of_le_length (by rw [L8,q];omega),cL,cL,cL]
  rw [m]
  have l:(h.without b).put b (.cells ((xs.set i y).flatMap enc++ex).toArray e)=h.put b (.cells ((xs.set i y).flatMap enc++ex).toArray e):=by
   rw [<- a,Ji,a]
  rw [l]
  refine x _ _ (s.upd n _) ⟨by simpa using w.1,.inr ⟨b,(xs.set i y).flatMap enc++ex,hA,C2 _ _ _,?_,?_⟩⟩ (fun k z=>B9 _ _ z)
  ·rw [aD,L8] at r ⊢
   simpa using r
  ·rw [cN (by rw [L8];omega),List.take_of_length_le (by rw [L8];omega)]
end
section
variable {h g:aE} {K:VP} {A:Option aI} {n c cols:Nat}
def B5t(h:aE)(v:bD)(A:Option aI)(n c cols:Nat):Prop:=∃ f0 f1:aI,v= .func (.func Il) #[] #[.pointer (some f0),.pointer (some f1)]/\h.cell? f0=some (.slice A n c)/\h.cell? f1=some (I (cols:Int))
def Yz(hc:1<=cols)(hK:∀ v h',h.le h'->B5t h' v A n c cols->K v h'):aV prog Tj #[.slice A n c,I (cols:Int)] h K:=by
 refine B5p _ _ _ _ ?_
 unfold C0c
 refine Wa ?_
 intro b f
 refine ⟨_,rfl,Wa ?_⟩
 intro d a
 have c1:Heap.cell? ((h.put b (.cells (bG (.slice A n c)) T8)).put d (.cells (bG (I (cols:Int))) 3)) ⟨d,0,none⟩=some (I (cols:Int)):=by rw [E9];rfl
 refine ⟨_,rfl,_,c1,B8 (fun e=>by omega) (fun _=>hK _ _ (B0 (Heap.le_put _ f) (Heap.le_put _ a)) ⟨⟨b,0,none⟩,⟨d,0,none⟩,rfl,?_,c1⟩)⟩
 refine C1 (Heap.le_put _ a) ?_
 rw [E9];rfl
def Ug{g0:aE}{v:bD}{rows:Nat}(ic:B5t g0 v A (rows*cols) c cols)(hc:1<=cols)(hn:rows*cols<=1000000000)(hcap:rows*cols<=c){B:List bD->aE->(aE->Prop)->Prop}{K:aE->Prop}(J:Nat->aE->Prop)(h0:J 0 h)(hle:∀ k h,J k h->g0.le h)
 (hB:∀ k h1,k<rows->J k h1->B [.slice (H9 A ((k+1)*cols) (k*cols) 4) cols cols] h1 (J (k+1))) (hK:∀ h1,J rows h1->K h1):A4s prog v h B K:=by
 obtain ⟨g,j,rfl,z,s⟩:=ic
 refine ⟨Il,#[],#[.pointer (some g),.pointer (some j)],rfl,A28,?_⟩
 intro l rec H a
 have E:(#[] ++ #[.func (.yield l) #[] #[]] ++ #[.pointer (some g),.pointer (some j)]:Array bD)=#[.func (.yield l) #[] #[],.pointer (some g),.pointer (some j)]:=by simp
 rw [E]
 refine B12 l g j ?_
 unfold B5q
 refine ⟨fun L u=>∃ (k:Nat) (h1:aE),k<=rows/\L=[I ((k*cols:Nat):Int)]/\h1 l=none/\u=h1.put l (.loop rec)/\J k h1,fun L _=>rows*cols-(iAt L 0).toNat,⟨0,h,by omega,by simp,H,rfl,h0⟩,?_⟩
 rintro i u ⟨k,h1,Q,G,b,rfl,q⟩
 obtain rfl:i=((k*cols:Nat):Int):=by simpa using G
 have t:=B0 (hle k h1 q) (Heap.le_put (.loop rec) b)
 have o:=C1 t z
 have C:=C1 t s
 refine ⟨_,_,_,o,B8 (fun D=>?_) (fun N=>?_)⟩
 ·have d:k<rows:=by
   by_cases p:k<rows
   ·exact p
   ·exfalso
    have:rows*cols<=k*cols:=aF _ (by omega)
    omega
  have R:(k+1)*cols<=rows*cols:=aF _ d
  have O:(k+1)*cols=k*cols+cols:=by rw [aL,aQ]
  have F:(if ((rows*cols-(((k*cols:Nat):Int)).toNat:Nat):Int)<(cols:Int) then ((rows*cols-(((k*cols:Nat):Int)).toNat:Nat):Int) else (cols:Int))=(cols:Int):=by
   rw [iN (by simp only [aY];omega)]
  have y:B7 (((k*cols:Nat):Int)+(cols:Int))=(((k+1)*cols:Nat):Int):=by rw [C0]<;>omega
  refine ⟨_,C,_,_,_,o,⟨by omega,by omega⟩,_,_,_,o,?_⟩
  rw [F,y]
  simp only [aY]
  have M:(k+1)*cols-k*cols=cols:=by omega
  rw [M]
  refine ⟨⟨by omega,by omega⟩,⟨by omega,by omega⟩,⟨by omega,by omega⟩,?_⟩
  refine (a _ h1 (J (k+1)) b (hB k h1 d q)).mono ?_
  rintro r S ⟨rfl,w,e,rfl,f⟩
  refine ⟨_,rfl,?_⟩
  show ∃ (t11:Int),_
  have n:=B0 (hle _ w f) (Heap.le_put (.loop rec) e)
  refine ⟨_,C1 n s,?_⟩
  rw [y]
  exact ⟨⟨k+1,w,by omega,rfl,e,rfl,f⟩,by simp only [U9];omega⟩
 ·have m:k=rows:=by
   by_cases p:k=rows
   ·exact p
   ·exfalso
    have:(k+1)*cols<=rows*cols:=aF _ (by omega)
    rw [aL,aQ] at this
    omega
  subst m
  exact ⟨h1,b,rfl,hK h1 q⟩
end
section
variable {α:Type} [E:Enc α]
def Wx{P:cC}{t e:aZ}{z:bD}{bytes:Nat}(st:SliceT P t e z E.default.size bytes){h g o:aE}{A:Option aI}{c:Nat}{xs:List α}(s:Sep h g o)(w:OwnSl o e A c xs){v:bD}{y:α}(hv:v.cells=(enc y).toArray)(hsz:E.default.size<=1000)
 (hb:(2*(xs.length+1)+192)*bytes<=281474976710656) (hn:xs.length+1<=9223372036854775807) {K:VP}
 (x0:∀ B m d hp,h.le hp->(∀ {ty:aZ} {K2:VP},(∀ A' c' h' g' o',g.le g'->Sep h' g' o'->OwnSl o' e A' c' (xs++[y])->(∀ k u,o k=some u->A≠some ⟨k,0,none⟩->o' k=some u/\A'≠some ⟨k,0,none⟩)->K2 (.slice A' (xs.length+1) c') h')->wpH P (aS #[t,t] ty #[.slice A xs.length c,.slice B m d]) K2 hp)->K (.slice B m d) hp):
 wpH P (bC t 1 #[(0,v)]) K h:=by
 obtain ⟨gb,p,G⟩:=w.priv s
 refine Nv st (vs:=[v]) (fun u hu=>by rw [List.mem_singleton.1 hu,hv];simp [E.default.len]) rfl (by simp;omega) rfl ?_
 intro b i
 have R:[v].flatMap (fun v=>v.cells.toList)=[y].flatMap enc:=by simp [hv]
 rw [R]
 refine x0 _ _ _ _ (Heap.le_put _ i) (fun {ty K2} x=>?_)
 have p':PrivF (h.put b (.cells ([y].flatMap enc).toArray e)) (gb.put b (.cells ([y].flatMap enc).toArray e)) e A c xs:=Priv.put p i _
 refine Kg st p' (ys:=[y]) rfl (B4f e h b [y]) hb hn ?_
 intro A' c' h' g' hg hp
 rw [aD]
 have H:∀ k u,h k=some u->A≠some ⟨k,0,none⟩->g' k=some u:=by
  intro k u a T
  have f:k≠b:=by rintro rfl;rw [i] at a;cases a
  exact hg k u (by rw [B9 _ _ f];exact G k u a T)
 have S:∀ k u,g k=some u->A≠some ⟨k,0,none⟩:=by
  intro k u a n
  rcases w.2 with ⟨_,Z⟩|⟨j,q,l,r,_⟩
  ·rw [n] at Z;cases Z
  ·rw [n] at l
   simp only [aJ,aP,and_true] at l
   subst l
   rw [s.dis k _ r] at a;cases a
 rcases hp.2.2 with ⟨aa,_⟩|⟨j,q,l,r,M,ha,ht⟩
 ·exfalso
  have:=hp.2.1
  rw [aD] at this
  simp at this
  omega
 ·subst l
  let o':aE:=fun k=>if k=j then some (.cells (bK q) e) else if A=some ⟨k,0,none⟩ then none else o k
  have X:o' j=some (.cells (bK q) e):=by show (if j=j then _ else _)=_;rw [iP rfl]
  have ok:∀ k,k≠j->A≠some ⟨k,0,none⟩->o' k=o k:=fun k L F=>by show (if k=j then _ else if _ then _ else _)=_;rw [iN L,iN F]
  have N:∀ k,k≠j->A=some ⟨k,0,none⟩->o' k=none:=fun k L F=>by show (if k=j then _ else if _ then _ else _)=_;rw [iN L,iP F]
  let g2:aE:=fun k=>match o' k with|some _=>none|none=>h' k
  have gs:∀ k u,o' k=some u->g2 k=none:=fun k u a=>by show (match o' k with|some _=>none|none=>h' k)=_;rw [a]
  have W:∀ k,o' k=none->g2 k=h' k:=fun k a=>by show (match o' k with|some _=>none|none=>h' k)=_;rw [a]
  have C:∀ k u,k≠j->g' k=some u->h' k=some u:=fun k u L a=>by rw [M,B9 _ _ L];exact a
  have J:∀ k u,o k=some u->A≠some ⟨k,0,none⟩->k≠j:=by
   rintro k u a F rfl
   have:=H k u (s.own k u a) F
   rw [r] at this;cases this
  refine x _ c' h' g2 o' (fun k u a=>?_) ⟨fun k u a=>?_,fun k a=>(W k a).symm,gs⟩ ⟨hp.2.1,.inr ⟨j,q,rfl,X,ha,ht⟩⟩ (fun k u a F=>?_)
  ·have Q:o k=none:=by
    cases ho:o k with
    | none=>rfl
    | some y=>rw [s.dis k y ho] at a;cases a
   have n:=S k u a
   have O:=H k u (s.le k u a) n
   have D:k≠j:=by rintro rfl;rw [r] at O;cases O
   rw [W k (by rw [ok k D n];exact Q)]
   exact C k u D O
  ·by_cases f:k=j
   ·subst f
    rw [X] at a;cases a
    rw [M,C2]
   ·by_cases n:A=some ⟨k,0,none⟩
    ·rw [N k f n] at a;cases a
    ·rw [ok k f n] at a
     exact C k u f (H k u (s.own k u a) n)
  ·have f:=J k u a F
   refine ⟨by rw [ok k f F];exact a,fun V=>f ?_⟩
   simp only [aJ,aP,and_true] at V
   exact V.symm
end
def A20{P:cC}{t:aZ}(one:P.cellsOf t=1/\(P.info? t).isSome=true){v:bD}(hv:A5c v=true)(hc:v.cells=#[v]){h g o:aE}(s:Sep h g o){b:Nat}{cs:Array bD}{e:aZ}(hb:o b=some (.cells cs e)){i:Nat}(hi:i<cs.size){K:Unit->aE->Prop}
 (x:∀ h' o',Sep h' g o'->o'=o.put b (.cells (cs.setIfInBounds i v) e)->K () h'):wpH P (aO t (.pointer (some (aC ⟨b,0,none⟩ i))) v) K h:=by
 rw [E6,aN]
 have a:h.put b (.cells cs e)=h:=A2b (s.own b _ hb)
 rw [<- a]
 refine Eo one.1 one.2 hv hc hi ?_
 exact x _ _ (s.upd hb _) rfl
structure NT (o:aE) (bp bt cols:Nat) (es:List IV) (ss:List QV) (A:Option aI) (c:Nat) (A':Option aI) (c':Nat):Prop where
 hp:∃ e,o bp=some (.cells #[.pointer (some ⟨bt,0,none⟩)] e)
 ht:∃ e,o bt=some (.cells #[I (cols:Int),.slice A es.length c,.slice A' ss.length c'] e)
 oe:OwnSl o Fn A c es
 os:OwnSl o G2 A' c' ss
 ne:bp≠bt
 a1:A≠some ⟨bp,0,none⟩/\A≠some ⟨bt,0,none⟩
 a2:A'≠some ⟨bp,0,none⟩/\A'≠some ⟨bt,0,none⟩
 a3:∀ b,A=some ⟨b,0,none⟩->A'≠some ⟨b,0,none⟩
section
variable {h g o:aE} {bp bt cols:Nat} {es:List IV} {ss:List QV} {A A':Option aI} {c c':Nat}
def NT.cp(n:NT o bp bt cols es ss A c A' c')(s:Sep h g o):h.cell? ⟨bp,0,none⟩=some (.pointer (some ⟨bt,0,none⟩)):=by
 obtain ⟨e,a⟩:=n.hp
 refine s.cell ?_
 unfold Heap.cell?;simp only [a];rfl
def NT.c1(n:NT o bp bt cols es ss A c A' c')(s:Sep h g o):h.cell? (aC ⟨bt,0,none⟩ 1)=some (.slice A es.length c):=by
 obtain ⟨e,a⟩:=n.ht
 refine s.cell ?_
 rw [E6];unfold Heap.cell?;simp only [a];rfl
def NT.c2(n:NT o bp bt cols es ss A c A' c')(s:Sep h g o):h.cell? (aC ⟨bt,0,none⟩ 2)=some (.slice A' ss.length c'):=by
 obtain ⟨e,a⟩:=n.ht
 refine s.cell ?_
 rw [E6];unfold Heap.cell?;simp only [a];rfl
def B72:prog.cellsOf Rk=1/\(prog.info? Rk).isSome=true:=by constructor<;>kernel_rfl
def B71:prog.cellsOf T8=1/\(prog.info? T8).isSome=true:=by constructor<;>kernel_rfl
def NT.buildE(n:NT o bp bt cols es ss A c A' c')(s:Sep h g o)(w:IV)(hl:es.length<=100000000){F:aE->Prop}(hF:∀ h' g' o' A2 c2,g.le g'->Sep h' g' o'->NT o' bp bt cols (es++[w]) ss A2 c2 A' c'->F h'){K:VP}
 (x:∀ B m d hp,h.le hp->hp.cell? ⟨bp,0,none⟩=some (.pointer (some ⟨bt,0,none⟩))->(∀ {K2:VP},(∀ A2 c2 h2,h2.cell? ⟨bp,0,none⟩=some (.pointer (some ⟨bt,0,none⟩))->wpH prog (aO Rk (.pointer (some (aC ⟨bt,0,none⟩ 1))) (.slice A2 (es.length+1) c2)) (fun _ h3=>F h3) h2->K2 (.slice A2 (es.length+1) c2) h2)->wpH prog (aS #[Rk,Rk] Rk #[.slice A es.length c,.slice B m d]) K2 hp)->K (.slice B m d) hp):
 wpH prog (bC Rk 1 #[(0,w.v)]) K h:=by
 refine Wx tZs s n.oe (y:=w) rfl (by decide) (by omega) (by omega) ?_
 intro B m d hp J j
 refine x B m d hp J (C1 J (n.cp s)) (fun {K2} t=>j ?_)
 intro A2 c2 h2 L C O D N keep
 obtain ⟨M,r⟩:=n.hp
 obtain ⟨Q,z⟩:=n.ht
 have u:=keep bp _ r n.a1.1
 have q:=keep bt _ z n.a1.2
 refine t A2 c2 h2 ?_ ?_
 ·refine D.cell ?_
  unfold Heap.cell?;simp only [u.1];rfl
 ·refine A20 B72 rfl rfl D q.1 (by simp) ?_
  intro h3 E R H
  have ko:∀ k,k≠bt->E k=C k:=fun k t=>by rw [H,B9 _ _ t]
  refine hF h3 L E A2 c2 O R ⟨⟨M,by rw [ko _ n.ne];exact u.1⟩,⟨Q,by rw [H,C2];simp⟩,N.keep fun b y f i=>by rw [ko b (fun e=>q.2 (by rw [<- e];exact f))];exact i,?_,n.ne,⟨u.2,q.2⟩,n.a2,?_⟩
  ·refine (n.os.keep (o':=C) fun b y f i=>(keep b y i (fun e=>n.a3 b e f)).1).keep fun b y f i=>by rw [ko b (fun e=>n.a2.2 (by rw [<- e];exact f))];exact i
  ·intro b f a
   rcases n.os.2 with ⟨_,T⟩|⟨G,S,l,p,_⟩
   ·rw [T] at a;cases a
   ·rw [l] at a
    simp only [aJ,aP,and_true] at a
    subst a
    exact (keep G _ p (fun e=>n.a3 G e l)).2 f
def NT.buildS(n:NT o bp bt cols es ss A c A' c')(s:Sep h g o)(w:QV)(hl:ss.length<=100000000){F:aE->Prop}(hF:∀ h' g' o' A2 c2,g.le g'->Sep h' g' o'->NT o' bp bt cols es (ss++[w]) A c A2 c2->F h'){K:VP}
 (x:∀ B m d hp,h.le hp->hp.cell? ⟨bp,0,none⟩=some (.pointer (some ⟨bt,0,none⟩))->(∀ {K2:VP},(∀ A2 c2 h2,h2.cell? ⟨bp,0,none⟩=some (.pointer (some ⟨bt,0,none⟩))->wpH prog (aO T8 (.pointer (some (aC ⟨bt,0,none⟩ 2))) (.slice A2 (ss.length+1) c2)) (fun _ h3=>F h3) h2->K2 (.slice A2 (ss.length+1) c2) h2)->wpH prog (aS #[T8,T8] T8 #[.slice A' ss.length c',.slice B m d]) K2 hp)->K (.slice B m d) hp):
 wpH prog (bC T8 1 #[(0,w.v)]) K h:=by
 refine Wx A9g s n.os (y:=w) rfl (by decide) (by omega) (by omega) ?_
 intro B m d hp H i
 refine x B m d hp H (C1 H (n.cp s)) (fun {K2} q=>i ?_)
 intro A2 c2 h2 J u N z M keep
 obtain ⟨L,p⟩:=n.hp
 obtain ⟨O,t⟩:=n.ht
 have r:=keep bp _ p n.a2.1
 have l:=keep bt _ t n.a2.2
 refine q A2 c2 h2 ?_ ?_
 ·refine z.cell ?_
  unfold Heap.cell?;simp only [r.1];rfl
 ·refine A20 B71 rfl rfl z l.1 (by simp) ?_
  intro h3 D Q G
  have ko:∀ k,k≠bt->D k=u k:=fun k q=>by rw [G,B9 _ _ q]
  refine hF h3 J D A2 c2 N Q ⟨⟨L,by rw [ko _ n.ne];exact r.1⟩,⟨O,by rw [G,C2];simp⟩,?_,M.keep fun b y a f=>by rw [ko b (fun e=>l.2 (by rw [<- e];exact a))];exact f,n.ne,n.a1,⟨r.2,l.2⟩,?_⟩
  ·refine (n.oe.keep (o':=u) fun b y a f=>(keep b y f (fun e=>n.a3 b a e)).1).keep fun b y a f=>by rw [ko b (fun e=>n.a1.2 (by rw [<- e];exact a))];exact f
  ·intro b a
   rcases n.oe.2 with ⟨_,S⟩|⟨E,R,C,j,_⟩
   ·rw [S] at a;cases a
   ·rw [C] at a
    simp only [aJ,aP,and_true] at a
    subst a
    exact (keep E _ j (fun e=>n.a3 E C e)).2
end
def A3a(E:Nat->Rat)(cols i:Nat):Nat->Rat:=fun j=>E (i*cols+j)
def B29(E:Nat->Rat)(cols i j:Nat):Int:=scl (A3a E cols i j) (Bv (A3a E cols i) cols:Int)
def B6c(E:Nat->Rat)(cols i:Nat):Nat->Nat
 | 0=>0
 | j+1=>cQ (B6c E cols i j:Int) (B29 E cols i j)
def Yx(E:Nat->Rat)(cols i:Nat):Nat:=if B6c E cols i cols=0 then 1 else B6c E cols i cols
def A08(E:Nat->Rat)(cols i j:Nat):Int:=(B29 E cols i j).tdiv (Yx E cols i:Int)
def Tz(E:Nat->Rat)(cols i:Nat):Rat:=bN (Bv (A3a E cols i) cols:Int) (Yx E cols i:Int)
def B7k(E:Nat->Rat)(cols i:Nat):∀ n j,j<n->(B6c E cols i n:Int)∣B29 E cols i j:=by
 intro n
 induction n with
 | zero=>intro j h;omega
 | succ n ih=>
  intro j a
  by_cases e:j=n
  ·subst e;exact Int.gcd_dvd_right _ _
  ·exact Int.dvd_trans (Int.gcd_dvd_left _ _) (ih j (by omega))
def Tq(E:Nat->Rat)(cols i:Nat):0<Yx E cols i:=by unfold Yx;split<;>omega
def B7w(E:Nat->Rat)(cols i:Nat){j:Nat}(hj:j<cols):(Yx E cols i:Int)∣B29 E cols i j:=by
 unfold Yx
 split
 ·exact Int.one_dvd _
 ·exact B7k E cols i cols j hj
def B1v(E:Nat->Rat)(cols i:Nat){j:Nat}(hj:j<cols):(A08 E cols i j:Rat)=Tz E cols i*E (i*cols+j):=by
 have f:=Tq E cols i
 have a:((Yx E cols i:Nat):Int)≠0:=by omega
 have b:((A08 E cols i j:Int):Rat)*((Yx E cols i:Nat):Int)=E (i*cols+j)*((Bv (A3a E cols i) cols:Nat):Int):=by
  rw [<- aW]
  unfold A08
  rw [Int.tdiv_mul_cancel (B7w E cols i hj)]
  exact B23 (by
   have:=A0r (A3a E cols i) cols j hj
   exact Int.natCast_dvd_natCast.2 this)
 have c:=J6 a
 unfold Tz
 rw [bX]
 have e:(((Bv (A3a E cols i) cols:Nat):Int):Rat)/(((Yx E cols i:Nat):Int):Rat)*E (i*cols+j)=E (i*cols+j)*(((Bv (A3a E cols i) cols:Nat):Int):Rat)/(((Yx E cols i:Nat):Int):Rat):=by
  rw [bW,bW];grind
 rw [e,<- b]
 generalize (((Yx E cols i:Nat):Int):Rat)=d at *
 rw [bW]
 grind
def Nd(E:Nat->Rat)(cols i:Nat):0<Tz E cols i:=by
 unfold Tz
 rw [bX]
 have a:(0:Rat)<((Bv (A3a E cols i) cols:Nat):Int):=by
  have:=A0q (A3a E cols i) cols
  exact_mod_cast this
 have b:(0:Rat)<((Yx E cols i:Nat):Int):=by
  have:=Tq E cols i
  exact_mod_cast this
 rw [bW]
 exact Rat.mul_pos a (Rat.inv_pos.2 b)
def ZB.gcd2{k:Nat}{x y:Int}(hx:ZB k x)(hy:ZB k y):ZB k (cQ x y:Int):=by
 by_cases h:y=0
 ·subst h
  rw [Int.gcd_zero_right]
  unfold ZB at *
  simpa using hx
 ·exact ZB.gcd h hy
section
variable {E:Nat->Rat} {cols i m:Nat}
def A0g(h:∀ j,j<cols->Sz m (E (i*cols+j))){j:Nat}(hj:j<cols):ZB (1+cols*m+m) (B29 E cols i j):=by
 have:=B22 (h j hj) (Lh (f:=A3a E cols i) cols h)
 exact this.mono (by omega)
def B3f(h:∀ j,j<cols->Sz m (E (i*cols+j))):∀ j,j<=cols->ZB (1+cols*m+m) (B6c E cols i j:Int):=by
 intro j
 induction j with
 | zero=>intro _;exact ZB.zero
 | succ j ih=>intro a;exact (ih (by omega)).gcd2 (A0g h (by omega))
def A1s(h:∀ j,j<cols->Sz m (E (i*cols+j))):ZB (1+cols*m+m) (Yx E cols i:Int):=by
 unfold Yx
 split
 ·exact ZB.one (by omega)
 ·exact B3f h cols (aG _)
def B1u(h:∀ j,j<cols->Sz m (E (i*cols+j))){j:Nat}(hj:j<cols):ZB (1+cols*m+m) (A08 E cols i j):=(A0g h hj).tdiv
def A07(h:∀ j,j<cols->Sz m (E (i*cols+j))):Sz (1+cols*m+m) (Tz E cols i):=by
 have:=Tq E cols i
 exact U3 (by omega) ((Lh (f:=A3a E cols i) cols h).mono (by omega)) (A1s h)
end
structure EsOk (g:aE) (E:Nat->Rat) (cols k:Nat) (es:List IV) (V:Nat->Int) (j:Nat):Prop where
 len:es.length=k*cols+j
 rows:∀ a b,a<k->b<cols->∃ w,es[a*cols+b]? = some w/\ZIr g w (A08 E cols a b)
 last:∀ b,b<j->∃ w,es[k*cols+b]? = some w/\ZIr g w (V b)
def EsOk.mono{g g':aE}{E:Nat->Rat}{cols k j:Nat}{es:List IV}{V:Nat->Int}(e:EsOk g E cols k es V j)(l:g.le g'):EsOk g' E cols k es V j:=by
 refine ⟨e.len,fun a b d i=>?_,fun b d=>?_⟩
 ·obtain ⟨w,c,f⟩:=e.rows a b d i;exact ⟨w,c,Fz _ _ _ _ l f⟩
 ·obtain ⟨w,c,f⟩:=e.last b d;exact ⟨w,c,Fz _ _ _ _ l f⟩
def EsOk.push{g:aE}{E:Nat->Rat}{cols k j:Nat}{es:List IV}{V:Nat->Int}(e:EsOk g E cols k es V j){w:IV}(hw:ZIr g w (V j)):EsOk g E cols k (es++[w]) V (j+1):=by
 have n:=e.len
 refine ⟨by rw [aD,e.len];rfl,fun a b f i=>?_,fun b f=>?_⟩
 ·obtain ⟨u,d,c⟩:=e.rows a b f i
  have l:=O2 f i
  exact ⟨u,by rw [aM (by omega)];exact d,c⟩
 ·by_cases m:b=j
  ·subst m
   exact ⟨w,by rw [aR (by omega),n];simp,hw⟩
  ·obtain ⟨u,d,c⟩:=e.last b (by omega)
   exact ⟨u,by rw [aM (by omega)];exact d,c⟩
def EsOk.set{g:aE}{E:Nat->Rat}{cols k:Nat}{es:List IV}{V:Nat->Int}(e:EsOk g E cols k es V cols){b:Nat}(hb:b<cols){w:IV}{z:Int}(hw:ZIr g w z):EsOk g E cols k (es.set (k*cols+b) w) (fun x=>if x=b then z else V x) cols:=by
 have n:=e.len
 refine ⟨by simpa using n,fun a c d l=>?_,fun c d=>?_⟩
 ·obtain ⟨u,i,f⟩:=e.rows a c d l
  have m:=O2 d l
  exact ⟨u,by rw [bB (by omega)];exact i,f⟩
 ·by_cases j:c=b
  ·subst j
   exact ⟨w,by rw [bL (by omega)],by show ZIr g w (if c=c then z else V c);rw [iP rfl];exact hw⟩
  ·obtain ⟨u,i,f⟩:=e.last c d
   exact ⟨u,by rw [bB (by omega)];exact i,by show ZIr g u (if c=b then z else V c);rw [iN j];exact f⟩
def EsOk.congr{g:aE}{E:Nat->Rat}{cols k j:Nat}{es:List IV}{V V':Nat->Int}(e:EsOk g E cols k es V j)(h:∀ b,b<j->V b=V' b):EsOk g E cols k es V' j:=
 ⟨e.len,e.rows,fun b a=>by rw [<- h b a];exact e.last b a⟩
def EsOk.next{g:aE}{E:Nat->Rat}{cols k:Nat}{es:List IV}{V:Nat->Int}(e:EsOk g E cols k es V cols)(h:∀ b,b<cols->V b=A08 E cols k b)(V':Nat->Int):EsOk g E cols (k+1) es V' 0:=by
 refine ⟨by rw [e.len,aL,aQ];rfl,fun a b d c=>?_,fun b d=>by omega⟩
 by_cases f:a=k
 ·subst f;rw [<- h b c];exact e.last b c
 ·exact e.rows a b (by omega) c
section
variable {h g:aE} {K:VP} {A:Option aI} {n c rows cols m:Nat} {E:Nat->Rat}
def Fy(gl:Gl h)(r:bV RQr h A (rows*cols) E)(hcap:rows*cols<=c)(hr:1<=rows)(hr2:rows<=10000)(hc:1<=cols)(hc2:cols<=10000)(hs:∀ i,i<rows*cols->Sz m (E i))(hm:1+cols*m+m<=6400000000)
 (hK:∀ h' g' o' T,h.le g'->Tab h' g' o' T (A08 E cols) (Tz E cols)->T.rows=rows->T.cols=cols->K (.pointer (some ⟨T.bt,0,none⟩)) h'):aV prog Ae #[.slice A (rows*cols) c,I (cols:Int)] h K:=by
 refine A4w _ _ _ _ ?_
 unfold A4x
 have ca:rows*cols<=100000000:=by
  have:rows*cols<=10000*10000:=cH hr2 hc2
  omega
 refine Wa ?_
 intro bt bv
 refine ⟨_,rfl,Gv (z:=.pointer none) (by kernel_rfl) ?_⟩
 intro X ak
 have a0:X≠bt:=by rintro rfl;rw [C2] at ak;cases ak
 refine ⟨_,rfl,?_⟩
 refine Eo (by kernel_rfl) (by kernel_rfl) rfl rfl (by decide) ?_
 have s0:=((Sep.refl h).new bv (.cells (bG (.agg #[I (cols:Int),.slice none 0 0,.slice none 0 0])) Tt)).new ak (.cells ((bG (.pointer none)).setIfInBounds 0 (.pointer (some ⟨bt,0,none⟩))) Pr)
 have n0:NT ((U1.put bt (.cells (bG (.agg #[I (cols:Int),.slice none 0 0,.slice none 0 0])) Tt)).put X (.cells ((bG (.pointer none)).setIfInBounds 0 (.pointer (some ⟨bt,0,none⟩))) Pr)) X bt cols [] [] none 0 none 0:=
  ⟨⟨_,C2 _ _ _⟩,⟨_,by rw [B9 _ _ a0.symm,C2];rfl⟩,OwnSl.nil,OwnSl.nil,a0,⟨by simp,by simp⟩,⟨by simp,by simp⟩,fun b hb=>by cases hb⟩
 generalize (U1.put bt (.cells (bG (.agg #[I (cols:Int),.slice none 0 0,.slice none 0 0])) Tt)).put X (.cells ((bG (.pointer none)).setIfInBounds 0 (.pointer (some ⟨bt,0,none⟩))) Pr)=o0 at s0 n0
 refine s0.call (Yz hc ?_)
 intro v g0 l0 ic ci s3
 have bound:∀ k,k<rows->∀ j,j<cols->Sz m (E (k*cols+j)):=fun k hk j hj=>hs _ (O2 hk hj)
 refine ⟨_,rfl,Ug ic hc (by omega) hcap (fun k J=>∃ (O o1:aE) (u:List IV) (C:List QV) (A1:Option aI) (c1:Nat) (A2:Option aI) (c2:Nat),g0.le O/\Sep J O o1/\NT o1 X bt cols u C A1 c1 A2 c2/\EsOk O E cols k u (fun _=>0) 0/\C.length=k/\Row RQr O C k (Tz E cols)) ?_ ?_ ?_ ?_⟩
 ·exact ⟨g0,o0,[],[],none,0,none,0,B5 _,s3,n0,⟨by simp,fun a b h1=>by omega,fun b h1=>by omega⟩,rfl,Row.nil⟩
 ·rintro k J ⟨O,o1,u,C,A1,c1,A2,c2,lg,s1,_⟩
  exact B0 lg s1.le
 ·rintro k cg ar ⟨O,o1,u,C,A1,c1,A2,c2,az,s4,S,e1,F,rs⟩
  have bk:=bound k ar
  have cj:(k+1)*cols<=rows*cols:=aF _ ar
  have cf:(k+1)*cols=k*cols+cols:=by rw [aL,aQ]
  have b6:k<=k*cols:=Nat.le_mul_of_pos_right k hc
  have ai:=B0 l0 az
  have a7:bV RQr h A ((k+1)*cols) E:=by
   have:=r.cut (c:=c) (l:=0) (k:=(k+1)*cols) (by omega) hcap
   rw [J0] at this
   exact this.congr fun i _=>by rw [aN]
  have af:bV RQr h (H9 A ((k+1)*cols) (k*cols) 4) cols (A3a E cols k):=a7.cut (c:=(k+1)*cols) (l:=k*cols) (k:=cols) (by omega) (aG _)
  refine ⟨_,_,_,rfl,s4.call (Ee (gl.mono ai) (af.mono I8 ai) (by omega) bk hm ?_)⟩
  intro sd Ad nd cd g2 l2 id b9 s5
  have cE:=S.c1 s5
  rw [e1.len,cF] at cE
  have d2:=Lh (f:=A3a E cols k) cols bk
  have al:1+cols*m<=1+cols*m+m:=by omega
  refine ⟨_,_,_,_,rfl,_,S.cp s5,_,rfl,_,_,_,cE,fun L J=>∃ (j:Nat) (s:Bool) (B:Option aI) (bn bc:Nat) (W o3:aE) (u:List IV) (A1:Option aI) (c1:Nat),j<=cols/\L=[I (j:Int),.bool s,.slice B bn bc]/\g2.le W/\Sep J W o3/\NT o3 X bt cols u C A1 c1 A2 c2/\EsOk W E cols k u (B29 E cols k) j/\ZI W s B bn bc (B6c E cols k j:Int),
   fun L _=>cols-(iAt L 0).toNat,⟨0,false,none,0,0,g2,o1,u,A1,c1,by omega,rfl,B5 _,s5,S,(e1.mono l2).congr (fun b hb=>by omega),ZI.zero⟩,?_⟩
  rintro z bs bA bn bc b8 ⟨j,sB,B,ch,ce,W,o3,ad,A3,c3,hj,eL,l3,s6,n3,e3,i3⟩
  simp only [aX,bU,bM,aT,true_and,and_true] at eL
  obtain ⟨rfl,rfl,rfl,rfl,rfl⟩:=eL
  have bm:B7 ((j:Int)+1)=((j+1:Nat):Int):=by rw [C0]<;>omega
  have ac:=B0 ai (B0 l2 l3)
  refine B8 (fun bh=>?_) (fun bj=>?_)
  ·have D:j<cols:=by omega
   obtain ⟨a,w,ea,iw,q0,q1,q2,q3⟩:=af.qat D
   have ab:=B0 ac s6.le
   refine ⟨a,ea,by omega,by omega,_,_,_,_,_,_,_,_,C1 ab q0,C1 ab q1,C1 ab q2,C1 ab q3,?_⟩
   refine s6.call (Ky (m:=1+cols*m+m) (I8 _ _ _ _ ac iw) (id.mono l3) ((bk j D).mono (by omega)) (d2.mono al) hm ?_)
   intro s7 A7 n7 c7 g7 l7 i7 ap bz
   refine ⟨_,_,_,_,rfl,bz.call (Cx (gl.mono (B0 ac l7)).tz (i3.mono l7) i7 (B3f bk j hj) (A0g bk D) hm ?_)⟩
   intro A8 n8 c8 g8 l8 i8 aj G
   have z7:ZIr g8 ⟨s7,A7,n7,c7⟩ (B29 E cols k j):=i7.mono l8
   have hF:∀ h' g' o' A2' M,g8.le g'->Sep h' g' o'->NT o' X bt cols (ad++[⟨s7,A7,n7,c7⟩]) C A2' M A2 c2->(∃ (j':Nat) (s:Bool) (B:Option aI) (bn bc:Nat) (W o3:aE) (u:List IV) (A1:Option aI) (c1:Nat),j'<=cols/\[I (B7 ((j:Int)+1)),.bool false,.slice A8 n8 c8]=[I (j':Int),.bool s,.slice B bn bc]/\g2.le W/\Sep h' W o3/\NT o3 X bt cols u C A1 c1 A2 c2/\EsOk W E cols k u (B29 E cols k) j'/\ZI W s B bn bc (B6c E cols k j':Int))/\cols-(iAt [I (B7 ((j:Int)+1)),.bool false,.slice A8 n8 c8] 0).toNat<cols-(iAt [I (j:Int),.bool bs,.slice bA bn bc] 0).toNat:=by
    intro h' g' o' A2' M N s' n'
    rw [bm]
    refine ⟨⟨j+1,false,A8,n8,c8,g',o',_,A2',M,by omega,rfl,B0 l3 (B0 l7 (B0 l8 N)),s',n',((e3.mono (B0 l7 l8)).push z7).mono N,i8.mono N⟩,by simp only [U9];omega⟩
   have H:ad.length<=100000000:=by have:=e3.len;omega
   refine ⟨_,_,_,_,rfl,_,n3.cp G,_,rfl,_,_,_,n3.c1 G,⟨_,n3.cp G,?_⟩,?_⟩
   ·exact n3.buildE G ⟨s7,A7,n7,c7⟩ H hF fun B m d J lp cp p=>⟨_,_,_,rfl,lp,p fun A2 c2 h2 _ q=>⟨_,_,_,rfl,_,rfl,q⟩⟩
   ·exact n3.buildE G ⟨s7,A7,n7,c7⟩ H hF fun B m d J lp cp p=>⟨_,_,_,rfl,lp,⟨_,cp,p fun A2 c2 h2 _ q=>⟨_,_,_,rfl,_,rfl,q⟩⟩,p fun A2 c2 h2 an q=>⟨_,_,_,rfl,_,an,_,rfl,q⟩⟩
  ·have D:j=cols:=by omega
   subst D
   have hg:((B6c E j k j:Nat):Int)=0↔B6c E j k j=0:=by omega
   refine ⟨fun L J=>∃ (s:Bool) (B:Option aI) (bn bc:Nat) (g4:aE),L=[.bool s,.slice B bn bc]/\W.le g4/\Sep J g4 o3/\ZI g4 s B bn bc (Yx E j k:Int),?_,?_⟩
   ·refine s6.call (F5 i3 ?_)
    intro ap s7
    refine ⟨_,rfl,B8 (fun e=>?_) (fun e=>?_)⟩
    ·refine s7.call (Cv (by omega) (by omega) ?_)
     intro V A8 n8 c8 g8 l8 i8 aj G
     refine ⟨_,_,_,_,rfl,_,_,_,_,g8,rfl,l8,G,?_⟩
     have:Yx E j k=1:=by unfold Yx;rw [iP (hg.1 e)]
     rw [this];exact i8
    ·refine ⟨_,_,_,_,W,rfl,B5 _,s7,?_⟩
     have:Yx E j k=B6c E j k j:=by unfold Yx;rw [iN (fun x=>e (hg.2 x))]
     rw [this];exact i3
   ·rintro cs cA cn cc ap ⟨bg,be,bf,br,g4,eL,l4,s7,ic⟩
    obtain ⟨rfl,rfl,rfl,rfl⟩:cs=bg/\cA=be/\cn=bf/\cc=br:=by simpa using eL
    have e4:=e3.mono l4
    have a4:=n3.c1 s7
    rw [e4.len] at a4
    have bb:ad≠[]:=by rintro rfl;have:=e4.len;simp at this;omega
    obtain ⟨Q,ao,rB⟩:=n3.oe.rowB bb
    subst ao
    have cb:k*j+j<=c3:=by have:=n3.oe.1;rw [e4.len] at this;exact this
    have aq:(((k*j:Nat):Int)).toNat=k*j:=rfl
    have a5:H9 (some ⟨Q,0,none⟩) c3 ((((k*j:Nat):Int)).toNat) 2=some ⟨Q,k*j*2,none⟩:=by rw [aq,Vw (by omega),E6,aN]
    have a8:k*j+j-(((k*j:Nat):Int)).toNat=j:=by rw [aq];omega
    refine ⟨_,n3.cp s7,_,rfl,_,_,_,a4,⟨by omega,by omega⟩,?_⟩
    rw [a5,a8]
    refine ⟨fun L J=>∃ (n:Nat) (g o:aE) (u:List IV),n<=j/\L=[I (n:Int)]/\g4.le g/\Sep J g o/\NT o X bt j u C (some ⟨Q,0,none⟩) c3 A2 c2/\EsOk g E j k u (fun b=>if b<n then A08 E j k b else B29 E j k b) j,fun L _=>j-(iAt L 0).toNat,⟨0,g4,o3,ad,by omega,rfl,B5 _,s7,n3,e4.congr fun b hb=>by rw [iN (by omega)]⟩,?_⟩
    rintro z aj ⟨n,g5,o5,R,b7,eL,l5,V,t,e5⟩
    obtain rfl:=sI1 eL
    have ay:B7 ((n:Int)+1)=((n+1:Nat):Int):=by rw [C0]<;>omega
    have bw:B7 (((k*j:Nat):Int)+(n:Int))=((k*j+n:Nat):Int):=by rw [C0]<;>omega
    have ax:=t.c1 V
    rw [e5.len] at ax
    have bq:=Tq E j k
    refine B8 (fun bh=>?_) (fun bj=>?_)
    ·have D:n<j:=by omega
     obtain ⟨w,ew,iw⟩:=e5.last n D
     rw [iN (aU n)] at iw
     obtain ⟨ck,ag,b3⟩:=t.oe.rowB (by rintro rfl;have:=e5.len;simp at this;omega)
     simp only [aJ,aP,and_true] at ag
     subst ag
     have aa:k*j+n<R.length:=by have:=e5.len;omega
     have bo:R[k*j+n]=w:=by
      rw [aH aa] at ew
      cases ew;rfl
     have ha:k*j*2+n*2=(k*j+n)*2:=by rw [aL]
     have cell:∀ x v,(enc w)[x]? = some v->aj.cell? (aC (aC ⟨Q,k*j*2,none⟩ (((n:Int)).toNat*2)) x)=some v:=by
      intro x v hx
      refine V.cell ?_
      rw [E6,E6]
      show o5.cell? ⟨Q,k*j*2+n*2+x,none⟩=_
      rw [ha]
      exact b3.cell aa (by rw [bo];exact hx)
     refine ⟨_,rfl,by omega,by omega,_,_,_,_,cell 0 _ rfl,cell 1 _ rfl,_,t.cp V,_,rfl,_,_,_,ax,?_⟩
     refine V.call (R5 iw (ic.mono l5) (A0g bk D) (A1s bk) hm (by omega) ?_)
     intro Z A9 n9 c9 g9 l9 i9 a6 av
     refine ⟨_,_,_,_,rfl,V.le_le av l9,_,rfl,by omega,by omega,?_⟩
     rw [bw]
     refine OwnSl.store Ua (y:=(⟨Z,A9,n9,c9⟩:IV)) rfl av t.oe aa rfl ?_
     intro b4 b0 bl ba ko
     obtain ⟨x1,bu⟩:=t.hp
     obtain ⟨x2,ah⟩:=t.ht
     have b1:X≠Q:=fun e=>t.a1.1 (by rw [e])
     have b2:bt≠Q:=fun e=>t.a1.2 (by rw [e])
     rw [ay]
     refine ⟨⟨n+1,g9,b0,R.set (k*j+n) ⟨Z,A9,n9,c9⟩,by omega,rfl,B0 l5 l9,bl,⟨⟨x1,by rw [ko _ b1];exact bu⟩,⟨x2,by rw [ko _ b2,List.length_set];exact ah⟩,ba,t.os.keep fun b x hb hx=>by rw [ko b (fun e=>t.a3 Q rfl (by rw [<- e];exact hb))];exact hx,t.ne,t.a1,t.a2,t.a3⟩,((e5.mono l9).set D (show ZIr g9 ⟨Z,A9,n9,c9⟩ (A08 E j k n) from i9)).congr fun b hb=>?_⟩,by simp only [U9];omega⟩
     show (if b=n then A08 E j k n else if b<n then A08 E j k b else B29 E j k b)=if b<n+1 then A08 E j k b else B29 E j k b
     by_cases eb:b=n
     ·subst eb;rw [iP rfl,iP (by omega)]
     ·rw [iN eb]
      by_cases h7:b<n
      ·rw [iP h7,iP (by omega)]
      ·rw [iN h7,iN (by omega)]
    ·have bd:n=j:=by omega
     subst bd
     have eN:EsOk g5 E n (k+1) R (fun _=>0) 0:=e5.next (fun b hb=>by rw [iP hb]) _
     have sS:=A07 (E:=E) (cols:=n) (i:=k) bk
     have fr:∀ (gg:aE) (w:QV),g5.le gg->RQ gg w (bN (Bv (A3a E n k) n:Int) (Yx E n k:Int))->∀ h' g' o' A2' M,gg.le g'->Sep h' g' o'->NT o' X bt n R (C++[w]) (some ⟨Q,0,none⟩) c3 A2' M->∃ (O o1:aE) (u:List IV) (C:List QV) (A1:Option aI) (c1:Nat) (A2:Option aI) (c2:Nat),g0.le O/\Sep h' O o1/\NT o1 X bt n u C A1 c1 A2 c2/\EsOk O E n (k+1) u (fun _=>0) 0/\C.length=k+1/\Row RQr O C (k+1) (Tz E n):=by
      intro gg w au iw h' g' o' A2' M N s' n'
      have ae:O.le g':=B0 l2 (B0 l3 (B0 l4 (B0 l5 (B0 au N))))
      refine ⟨g',o',R,C++[w],_,c3,A2',M,B0 az ae,s',n',eN.mono (B0 au N),by simp [F],?_⟩
      have bi:Row RQr g' C C.length (Tz E n):=by rw [F];exact rs.mono I8 ae
      have:=bi.push (w:=w) (by rw [F];exact I8 _ _ _ _ N iw)
      rw [aD,F] at this
      exact this
     have aw:=(gl.mono (B0 ac (B0 l4 l5))).tz
     have a9:=(id.mono (B0 l3 (B0 l4 l5)))
     have am:C.length<=100000000:=by omega
     refine ⟨_,t.cp V,_,rfl,_,_,_,t.c2 V,⟨_,t.cp V,?_⟩,?_⟩
     ·refine V.call (T0 aw a9 (ic.mono l5) (d2.mono al) (A1s bk) hm ?_)
      intro w gf lf iw a6 Z
      refine ⟨_,_,_,_,_,_,_,_,rfl,V.le_le Z lf,?_⟩
      exact t.buildS Z w am (fr gf w lf iw) fun B m d J lp cp p=>⟨_,_,_,rfl,lp,p fun A2 c2 h2 _ q=>⟨_,_,_,rfl,_,rfl,q⟩⟩
     ·refine V.call (T0 aw a9 (ic.mono l5) (d2.mono al) (A1s bk) hm ?_)
      intro w gf lf iw a6 Z
      refine ⟨_,_,_,_,_,_,_,_,rfl,V.le_le Z lf,⟨_,t.cp Z,?_⟩,?_⟩
      ·exact t.buildS Z w am (fr gf w lf iw) fun B m d J lp cp p=>⟨_,_,_,rfl,lp,p fun A2 c2 h2 _ q=>⟨_,_,_,rfl,_,rfl,q⟩⟩
      ·exact t.buildS Z w am (fr gf w lf iw) fun B m d J lp cp p=>⟨_,_,_,rfl,lp,⟨_,cp,p fun A2 c2 h2 _ q=>⟨_,_,_,rfl,_,rfl,q⟩⟩,p fun A2 c2 h2 an q=>⟨_,_,_,rfl,_,an,_,rfl,q⟩⟩
 ·rintro J ⟨O,o1,u,C,A1,c1,A2,c2,lg,s1,S,e1,F,rs⟩
  refine ⟨_,S.cp s1,?_⟩
  have H:u.length=rows*cols:=by rw [e1.len];rfl
  have b5:0<rows*cols:=Nat.mul_pos (by omega) (by omega)
  obtain ⟨Q,ao,rE⟩:=S.oe.rowB (by rintro rfl;simp at H;omega)
  obtain ⟨bS,bx,rS⟩:=S.os.rowB (by rintro rfl;simp at F;omega)
  subst ao bx
  obtain ⟨x2,ah⟩:=S.ht
  refine hK J O o1 ⟨bt,Q,bS,rows,cols,c1,c2⟩ (B0 l0 lg) ⟨s1,fun (e:bt=Q)=>S.a1.2 (by rw [<- e]),fun (e:bt=bS)=>S.a2.2 (by rw [<- e]),fun (e:Q=bS)=>S.a3 Q rfl (by rw [e]),⟨x2,by rw [ah,H,F]⟩,⟨u,rE,H,fun i j hi hj=>e1.rows i j hi hj⟩,⟨C,rS,F,rs⟩,by rw [<- H];exact S.oe.1,by rw [<- F];exact S.os.1,⟨hr2,hc2⟩,hc⟩ rfl rfl
end
structure MOk (r c:Int) (n:Nat) (ls:Nat->List UInt8) (rows cols:Nat):Prop where
 er:r=rows
 ec:c=cols
 r1:1<=rows
 r2:rows<=64
 c1:1<=cols
 c2:cols<=64
 len:n=rows*cols
 num:∀ i,i<n->cU (ls i)
def A74(r c:Int)(n:Nat):Prop:=1<=r/\r<=64/\1<=c/\c<=64/\(n:Int)=r*c
def MOk.of{r c:Int}{n:Nat}{ls:Nat->List UInt8}(s:A74 r c n)(h:∀ i,i<n->cU (ls i)):MOk r c n ls r.toNat c.toNat:=by
 obtain ⟨g,j,f,e,d⟩:=s
 refine ⟨by omega,by omega,by omega,by omega,by omega,by omega,?_,h⟩
 have b:(r.toNat:Int)=r:=by omega
 have a:(c.toNat:Int)=c:=by omega
 have:((r.toNat*c.toNat:Nat):Int)=r*c:=by rw [bF,b,a]
 omega
def MOk.shape{r c:Int}{n:Nat}{ls:Nat->List UInt8}{rows cols:Nat}(m:MOk r c n ls rows cols):A74 r c n:=by
 obtain ⟨rfl,rfl,e,f,d,b,a,_⟩:=m
 exact ⟨by omega,by omega,by omega,by omega,by rw [a,bF]⟩
abbrev Hb(r c:Int)(A:Option aI)(n cap:Nat):bD:=.agg #[I r,I c,.slice A n cap]
def Mx(r c:Int)(n:Nat)(ls:Nat->List UInt8):Prop:=∃ rows cols,MOk r c n ls rows cols
def A8z{r c:Int}{n:Nat}{ls:Nat->List UInt8}:Mx r c n ls↔A74 r c n/\∀ i,i<n->cU (ls i):=by
 constructor
 ·rintro ⟨a,b,m⟩;exact ⟨m.shape,m.num⟩
 ·rintro ⟨s,h⟩;exact ⟨_,_,MOk.of s h⟩
section
variable {h:aE} {K:VP} {A:Option aI} {n cap m:Nat} {r c:Int} {ls:Nat->List UInt8}
def A0t(hn:n<=1000000000)(hK1:A74 r c n->K (.bool true) h)(hK0:¬ A74 r c n->K (.bool false) h):aV prog Lu #[Hb r c A n cap] h K:=by
 refine A4y _ _ _ _ _ ?_
 unfold A4z
 refine B8 (fun j=>B8 (fun d=>B8 (fun g=>B8 (fun b=>?_) (fun e=>hK0 fun s=>e s.2.2.2.1)) (fun e=>hK0 fun s=>e s.2.2.1)) (fun e=>hK0 fun s=>e s.2.1)) (fun e=>hK0 fun s=>e s.1)
 have f:r*c<=64*64:=Int.mul_le_mul d b (by omega) (by omega)
 have a:0<=r*c:=Int.mul_nonneg (by omega) (by omega)
 have i:B7 (r*c)=r*c:=C0 (by omega) (by omega)
 rw [i]
 by_cases e:(n:Int)=r*c
 ·rw [show ((n:Int)==r*c)=true by simpa using e]
  exact hK1 ⟨j,d,g,b,e⟩
 ·rw [show ((n:Int)==r*c)=false by simpa using e]
  exact hK0 fun s=>e s.2.2.2.2
def V3(gl:Gl h)(rv':bV SSr h A n ls)(hn:n<=1000000)(hl:LL n ls)
 (hK1:∀ rows cols,MOk r c n ls rows cols->∀ b h',Own RQr h h' b n (fun i=>rv (ls i))->K (.tuple #[.slice (some ⟨b,0,none⟩) n n,.bool true]) h')
 (hK0:¬ Mx r c n ls->∀ h',h.le h'->K (.tuple #[.slice none 0 0,.bool false]) h'):aV prog Ij #[Hb r c A n cap] h K:=by
 refine B8p _ _ _ _ _ ?_
 unfold C4p
 refine A0t (by omega) (fun s=>⟨_,rfl,?_⟩) (fun s=>⟨_,rfl,hK0 (fun x=>s (A8z.1 x).1) h (B5 _)⟩)
 refine A3g gl rv' hn hl (fun a b h' w=>⟨_,_,_,_,rfl,hK1 _ _ (MOk.of s a) b h' w⟩) (fun d h' l=>⟨_,_,_,_,rfl,hK0 (fun x=>d (A8z.1 x).2) h' l⟩)
def Lb{f:Nat->Rat}(gl:Gl h)(rq:bV RQr h A n f)(hn:n<=1000000)(hs:∀ i,i<n->Sz m (f i))(hm:m<=40000000)
 (hK:∀ b h',Own SSr h h' b n (fun i=>K9 (f i))->K (Hb r c (some ⟨b,0,none⟩) n n) h'):aV prog Om #[I r,I c,.slice A n cap] h K:=by
 refine B5n _ _ _ _ _ ?_
 unfold C0a
 exact Ht gl rq hn hs hm fun b h' w=>⟨_,_,_,rfl,hK b h' w⟩
end
end Go.Proofs.YtmbfcbbkbefgfaaGreatDoor
namespace Go.Proofs.YtmbfcbbkbefgfaaGreatDoor
set_option maxRecDepth 20000
def ZrE(n c:Nat)(s:ES):Prop:=∀ i j,i<n->s.cs.length<=i->j<c->s.R i j=0
def A9m(n c:Nat)(s:ES)(h:s.cs.length<=n):s.cs.length<=Fv n c s/\Fv n c s<=n/\(Fv n c s<n->s.R (Fv n c s) c≠0)/\(∀ i,s.cs.length<=i->i<Fv n c s->s.R i c=0):=by
 have b:=A3y (fun i=>decide (s.R i c≠0)) (n-s.cs.length) s.cs.length
 have a:=A0w (fun i=>decide (s.R i c≠0)) (n-s.cs.length) s.cs.length
 have d:=A0x (fun i=>decide (s.R i c≠0)) (n-s.cs.length) s.cs.length
 have e:fnd (fun i=>decide (s.R i c≠0)) (n-s.cs.length) s.cs.length=Fv n c s:=rfl
 rw [e] at b a d
 refine ⟨b.1,by omega,fun j=>?_,fun i f g=>?_⟩
 ·have:=d (by omega);simpa using this
 ·have:=a i f g;simpa using this
structure EqA (n w c:Nat) (A:Nat->Nat->Rat) (s:ES):Prop where
 len:s.cs.length<=n
 zero:ZrE n c s
 lt:∀ x∈s.cs,x<c
 elim:∃ B,Elim n w B s.R (fun m=>s.cs.getD m 0) s.cs.length/\(∀ i,i<n->∃ i',i'<n/\∀ j,B i' j=A i j)/\(∀ i,i<n->∃ i',i'<n/\∀ j,B i j=A i' j)
 comb:∃ T:Nat->Nat->Rat,∀ i j,i<n->j<w->s.R i j=sm n fun l=>T i l*A l j
def A5g{k l i:Nat}:xch k l (xch k l i)=i:=by unfold xch;repeat' split
                                             all_goals omega
def mtx(E:Nat->Rat)(cols:Nat):Nat->Nat->Rat:=fun i j=>E (i*cols+j)
def elE(E:Nat->Rat)(rows cols c:Nat):ES:=B1b rows ⟨mtx E cols,[],1⟩ c
def elP(E:Nat->Rat)(rows cols c:Nat):PS:=Da rows ⟨A08 E cols,Tz E cols,[],1,1⟩ c
def A8i(E:Nat->Rat){rows cols c:Nat}(hc:c<=cols):ERel rows cols c (mtx E cols) (elE E rows cols c) (elP E rows cols c):=
 (ERel.start (fun i j _ a=>B1v E cols i a) (fun i _=>by have:=Nd E cols i;grind)).run c hc
def C3u(E:Nat->Rat){rows cols c:Nat}(hc:c<=cols):(elP E rows cols c).cs=(elE E rows cols c).cs:=(A8i E hc).cs.symm
def B9p(E:Nat->Rat){rows cols c:Nat}(hc:c<=cols){i j:Nat}(hi:i<rows)(hj:j<cols)(h:i<(elE E rows cols c).cs.length\/j<c):bN ((elP E rows cols c).M i j) (elP E rows cols c).last=(elE E rows cols c).R i j:=by
 have r:=A8i E hc (rows:=rows)
 have d:=r.val i j hi hj
 have b:=J6 r.last
 rw [bX,d]
 by_cases a:i<(elE E rows cols c).cs.length
 ·rw [iP a,cD,bW,Rat.mul_assoc,Rat.mul_inv_cancel _ b,Rat.mul_one]
 ·rw [iN a,r.zero i j hi (by omega) (by omega),bH,bH]
  rw [bW,cY]
def bnd(cols m:Nat):Nat:=1+cols*m+m
def C3t{E:Nat->Rat}{rows cols m:Nat}(h:∀ i,i<rows*cols->Sz m (E i)):ZbP rows cols (bnd cols m) (bnd cols m) ⟨A08 E cols,Tz E cols,[],1,1⟩:=by
 have e:∀ i,i<rows->∀ j,j<cols->Sz m (E (i*cols+j)):=fun i f j g=>h _ (O2 f g)
 refine ⟨fun a b d c=>?_,?_,fun a d=>A07 (e a d),bY _⟩
 ·show ZB (3^0*bnd cols m) (A08 E cols a b)
  rw [cZ,aQ];exact B1u (e a d) c
 ·show ZB (3^0*bnd cols m) 1
  exact ZB.one (by unfold bnd;omega)
def B3w{E:Nat->Rat}{rows cols m c:Nat}(h:∀ i,i<rows*cols->Sz m (E i))(hc:c<=cols):ZbP rows cols (bnd cols m) (bnd cols m) (elP E rows cols c):=(C3t h).run (by unfold bnd;omega) c hc
def B9o(E:Nat->Rat)(rows cols c:Nat):(elP E rows cols c).cs.length<=c:=A7q _ _ rfl c
def A8j(E:Nat->Rat)(rows cols c:Nat)(x:Nat):3^(elP E rows cols c).cs.length*x<=3^c*x:=aF _ (cG (by decide) (B9o E rows cols c))
def B3y(E:Nat->Rat)(rows cols c:Nat):(elP E rows cols c).last≠0:=(A38 rows _ (show (1:Int)≠0 by decide) (.inl rfl) (bY _) c).1
structure Own2 (h h':aE) (b n:Nat) (f:Nat->List UInt8) (A:Option aI) (cap:Nat) (l:List Int):Prop where
 ex:∃ g o xs,h.le g/\Sep h' g o/\RowX o b xs/\xs.length=n/\Row SSr g xs n f/\OwnSl o F9 A cap l/\A≠some ⟨b,0,none⟩
section
variable {h g o:aE} {T:Tb} {M:Nat->Nat->Int} {S:Nat->Rat}
end
section
variable {h:aE} {K:VP} {A:Option aI} {n cap m:Nat} {r c:Int} {ls:Nat->List UInt8}
abbrev rvs(ls:Nat->List UInt8):Nat->Rat:=fun i=>rv (ls i)
def A30{E:Nat->Rat}{rows cols cc nq:Nat}(gl:Gl h)(rq:bV RQr h A (rows*cols) E)(hcap:rows*cols<=cap)(hr:1<=rows)(hr2:rows<=10000)(hc:1<=cols)(hc2:cols<=10000)(hcc:cc<=cols)(hs:∀ i,i<rows*cols->Sz m (E i))(hnq:∀ k,k<=cc->(elP E rows cols k).cs.length<=nq)(hm:2*(3^nq*bnd cols m)+1<=100000000){K:VP}
 (hK:∀ T h1,aV prog Is #[.pointer (some ⟨T.bt,0,none⟩),I (cc:Int)] h1 (fun r h'=>∃ g' o' A' cap' w,h.le g'/\Tab h' g' o' T (elP E rows cols cc).M (elP E rows cols cc).S/\OwnSl o' F9 A' cap' (zs (elP E rows cols cc).cs)/\B90 T A'/\ZIr g' w (elP E rows cols cc).last/\
  r= .tuple #[.slice A' (elP E rows cols cc).cs.length cap',w.v,I (elP E rows cols cc).sgn])->h.le h1->T.rows=rows->T.cols=cols->K (.pointer (some ⟨T.bt,0,none⟩)) h1):aV prog Ae #[.slice A (rows*cols) cap,I (cols:Int)] h K:=by
 have h1:bnd cols m<=3^nq*bnd cols m:=Nat.le_mul_of_pos_left _ (Nat.pow_pos (by decide))
 have s:bnd cols m=1+cols*m+m:=rfl
 refine Fy (m:=m) gl rq hcap hr hr2 hc hc2 hs (by omega) ?_
 intro h' g' o' T g t b d
 refine hK T h' ?_ (B0 g t.sep.le) b d
 have c:=C3t hs
 rw [<- b,<- d] at c
 refine A3e (m:=bnd cols m) (l:=bnd cols m) t (by omega) (by unfold bnd;omega) (by rw [b];exact hnq) hm (by rw [b] at c ⊢;rw [d] at c ⊢;exact c) ?_
 intro s q n A2 a w o j f p ko e
 rw [b] at j f e ⊢
 exact ⟨q,n,A2,a,w,B0 g o,j,f,p,e,rfl⟩
def A5q{E:Nat->Rat}{rows cols cc:Nat}(gl:Gl h)(rq:bV RQr h A (rows*cols) E)(hcap:rows*cols<=cap)(hr:1<=rows)(hr2:rows<=10000)(hc:1<=cols)(hc2:cols<=10000)(hcc:cc<=cols)(hs:∀ i,i<rows*cols->Sz m (E i))(hm:2*(3^cc*bnd cols m)+1<=100000000){K:VP}
 (hK:∀ T h1,aV prog Is #[.pointer (some ⟨T.bt,0,none⟩),I (cc:Int)] h1 (fun r h'=>∃ g' o' A' cap' w,h.le g'/\Tab h' g' o' T (elP E rows cols cc).M (elP E rows cols cc).S/\OwnSl o' F9 A' cap' (zs (elP E rows cols cc).cs)/\B90 T A'/\ZIr g' w (elP E rows cols cc).last/\
  r= .tuple #[.slice A' (elP E rows cols cc).cs.length cap',w.v,I (elP E rows cols cc).sgn])->h.le h1->T.rows=rows->T.cols=cols->K (.pointer (some ⟨T.bt,0,none⟩)) h1):aV prog Ae #[.slice A (rows*cols) cap,I (cols:Int)] h K:=A30 gl rq hcap hr hr2 hc hc2 hcc hs (fun k a=>Nat.le_trans (B9o E rows cols k) a) hm hK
end
def Un(o:aE)(A:Option aI):aE:=fun k=>if A=some ⟨k,0,none⟩ then o k else none
def B2n(o:aE)(A:Option aI):(Un o A).le o:=fun k x e=>by
 unfold Un at e
 split at e
 ·exact e
 ·cases e
def OwnSl.only{α:Type}[E:Enc α]{o:aE}{e:aZ}{A:Option aI}{c:Nat}{xs:List α}(w:OwnSl o e A c xs):OwnSl (Un o A) e A c xs:=w.keep fun b x d a=>by unfold Un;rw [iP d];exact a
def A68(o:aE){A:Option aI}{k:Nat}(h:A≠some ⟨k,0,none⟩):Un o A k=none:=by unfold Un;rw [iN h]
section
variable {h:aE} {K:VP} {A:Option aI} {n cap m:Nat} {r c:Int} {ls:Nat->List UInt8}
end
def B1m:K9 0=[48]:=by simp [K9,Mz,O9]
section
variable {h:aE} {K:VP} {A:Option aI} {n cap m:Nat} {r c:Int} {ls:Nat->List UInt8}
end
structure HV where
 A:Option aI
 n:Nat
 c:Nat
abbrev HV.v(s:HV):bD:=.slice s.A s.n s.c
instance:Enc HV:=⟨⟨fun s=>[.slice s.A s.n s.c],1,fun _=>rfl,fun s v hv=>by rw [List.mem_singleton.1 hv];rfl⟩⟩
def RowsV(h:aE)(A:Option aI)(n w:Nat)(M:Nat->Nat->Rat):Prop:=∃ hd:List HV,SlF h A hd/\hd.length=n/\∀ i,i<n->∃ s,hd[i]? = some s/\s.n=w/\w<=s.c/\bV NQr h s.A w (M i)
def RowsV.mono{h h':aE}{A:Option aI}{n w:Nat}{M:Nat->Nat->Rat}(l:h.le h')(r:RowsV h A n w M):RowsV h' A n w M:=by
 obtain ⟨c,s,e,r⟩:=r
 refine ⟨c,s.mono l,e,fun i a=>?_⟩
 obtain ⟨s,f,b,d,r⟩:=r i a
 exact ⟨s,f,b,d,r.mono V8 l⟩
def RowsV.congr{h:aE}{A:Option aI}{n w:Nat}{M M':Nat->Nat->Rat}(r:RowsV h A n w M)(e:∀ i j,i<n->j<w->M i j=M' i j):RowsV h A n w M':=by
 obtain ⟨d,s,a,r⟩:=r
 refine ⟨d,s,a,fun i b=>?_⟩
 obtain ⟨s,a,c,f,r⟩:=r i b
 exact ⟨s,a,c,f,r.congr fun j g=>e i j b g⟩
def RowsV.at{h:aE}{A:Option aI}{n w:Nat}{M:Nat->Nat->Rat}(r:RowsV h A n w M){i:Nat}(hi:i<n):∃ (a:aI) (s:HV),A=some a/\s.n=w/\w<=s.c/\h.cell? (aC a (i*1))=some (.slice s.A s.n s.c)/\bV NQr h s.A w (M i):=by
 obtain ⟨f,s,e,r⟩:=r
 obtain ⟨u,b,d,j,r⟩:=r i hi
 obtain ⟨a,k,l⟩:=SlF.at (by decide) s (i:=i) (by omega)
 have g:f[i]=u:=by
  rw [aH (by omega)] at b;exact cO b
 have:=l 0 _ (by rw [g];rfl)
 rw [Wg] at this
 exact ⟨a,u,k,d,j,this,r⟩
structure Mt (h g o:aE) (bo:Nat) (rb:Nat->Nat) (n w:Nat) (M:Nat->Nat->Rat):Prop where
 sep:Sep h g o
 hd:∃ hd:List HV,RowB o bo hd/\hd.length=n/\∀ i,i<n->∃ c,hd[i]? = some ⟨some ⟨rb i,0,none⟩,w,c⟩/\w<=c
 nb:∀ i,i<n->rb i≠bo
 inj:∀ i j,i<n->j<n->rb i=rb j->i=j
 row:∀ i,i<n->∃ xs:List QV,RowB o (rb i) xs/\xs.length=w/\Row NQr g xs w (M i)
section
variable {h g o:aE} {bo n w:Nat} {rb:Nat->Nat} {M:Nat->Nat->Rat}
def Mt.next(t:Mt h g o bo rb n w M){h' g':aE}(s:Sep h' g' o)(l:g.le g'):Mt h' g' o bo rb n w M:=by
 refine ⟨s,t.hd,t.nb,t.inj,fun i b=>?_⟩
 obtain ⟨a,r,e,q⟩:=t.row i b
 exact ⟨a,r,e,q.mono V8 l⟩
def Mt.congr(t:Mt h g o bo rb n w M){M':Nat->Nat->Rat}(e:∀ i j,i<n->j<w->M i j=M' i j):Mt h g o bo rb n w M':=by
 refine ⟨t.sep,t.hd,t.nb,t.inj,fun i a=>?_⟩
 obtain ⟨b,r,c,q⟩:=t.row i a
 exact ⟨b,r,c,q.congr fun j d=>e i j a d⟩
def Mt.keep(t:Mt h g o bo rb n w M){h' g' o':aE}(s:Sep h' g' o')(l:g.le g')(hk:∀ k x,o k=some x->(k=bo\/∃ i,i<n/\k=rb i)->o' k=some x):Mt h' g' o' bo rb n w M:=by
 refine ⟨s,?_,t.nb,t.inj,fun i d=>?_⟩
 ·obtain ⟨j,⟨e,ex,a⟩,b,c⟩:=t.hd
  exact ⟨j,⟨e,ex,hk _ _ a (.inl rfl)⟩,b,c⟩
 ·obtain ⟨f,⟨e,ex,a⟩,b,c⟩:=t.row i d
  exact ⟨f,⟨e,ex,hk _ _ a (.inr ⟨i,d,rfl⟩)⟩,b,c.mono V8 l⟩
def Mt.own(t:Mt h g o bo rb n w M):(∃ x,o bo=some x)/\∀ i,i<n->∃ x,o (rb i)=some x:=by
 obtain ⟨d,⟨e,ex,a⟩,_⟩:=t.hd
 refine ⟨⟨_,a⟩,fun i b=>?_⟩
 obtain ⟨c,⟨e,ex,a⟩,_⟩:=t.row i b
 exact ⟨_,a⟩
def Mt.rowsV(t:Mt h g o bo rb n w M):RowsV h (some ⟨bo,0,none⟩) n w M:=by
 obtain ⟨j,r,e,q⟩:=t.hd
 refine ⟨j,r.slF t.sep.ole,e,fun i a=>?_⟩
 obtain ⟨c,l,k⟩:=q i a
 obtain ⟨b,m,f,d⟩:=t.row i a
 exact ⟨_,l,rfl,k,b,m.slF t.sep.ole,f,d.mono V8 t.sep.le⟩
def Mt.head(t:Mt h g o bo rb n w M){i:Nat}(hi:i<n):∃ c,w<=c/\o.cell? (aC ⟨bo,0,none⟩ (i*1))=some (.slice (some ⟨rb i,0,none⟩) w c):=by
 obtain ⟨f,r,e,q⟩:=t.hd
 obtain ⟨c,a,b⟩:=q i hi
 refine ⟨c,b,?_⟩
 have d:f[i]=⟨some ⟨rb i,0,none⟩,w,c⟩:=by
  rw [aH (by omega)] at a;exact cO a
 rw [E6,aN]
 exact r.cell (i:=i) (by omega) (j:=0) (by rw [d];rfl)
def Mt.elem(t:Mt h g o bo rb n w M){i j:Nat}(hi:i<n)(hj:j<w):∃ x:QV,NQ g x (M i j)/\o.cell? (aC (aC ⟨rb i,0,none⟩ (j*4)) 0)=some (.bool x.s)/\o.cell? (aC (aC ⟨rb i,0,none⟩ (j*4)) 1)=some (.slice x.A x.n x.c)/\o.cell? (aC (aC ⟨rb i,0,none⟩ (j*4)) 2)=some (.bool x.s2)/\o.cell? (aC (aC ⟨rb i,0,none⟩ (j*4)) 3)=some (.slice x.A2 x.n2 x.c2):=by
 obtain ⟨d,r,e,q⟩:=t.row i hi
 obtain ⟨x,a,b⟩:=q j hj
 have l:d[j]=x:=by
  rw [aH (by omega)] at a;exact cO a
 have cell:∀ k v,(enc x)[k]? = some v->o.cell? (aC (aC ⟨rb i,0,none⟩ (j*4)) k)=some v:=by
  intro k v f
  rw [E6,E6,aN]
  exact r.cell (i:=j) (by omega) (j:=k) (by rw [l];exact f)
 exact ⟨x,b,cell 0 _ rfl,cell 1 _ rfl,cell 2 _ rfl,cell 3 _ rfl⟩
def A04(M:Nat->Nat->Rat)(i j:Nat)(q:Rat):Nat->Nat->Rat:=fun a b=>if a=i/\b=j then q else M a b
def Mt.store(t:Mt h g o bo rb n w M){i j:Nat}(hi:i<n)(hj:j<w){x:QV}{q:Rat}(hx:NQ g x q){K:Unit->aE->Prop}
 (k:∀ h' o',Mt h' g o' bo rb n w (A04 M i j q)->(∀ k,k≠rb i->o' k=o k)->K () h'):wpH prog (aO E7 (.pointer (some (aC ⟨rb i,0,none⟩ (j*4)))) x.v) K h:=by
 obtain ⟨J,r,e,p⟩:=t.row i hi
 rw [E6,aN]
 refine Sep.store (E:=inferInstanceAs (Enc QV)) A31 (v:=x.v) (y:=x) rfl t.sep r (i:=j) (by omega) rfl ?_
 intro h' o' L d F u
 refine k h' o' ⟨F,?_,t.nb,t.inj,fun a l=>?_⟩ (fun k z=>by rw [d,B9 _ _ z])
 ·obtain ⟨B,s,G,H⟩:=t.hd
  exact ⟨B,by rw [d];exact s.other (t.nb i hi).symm _,G,H⟩
 ·by_cases f:a=i
  ·subst f
   refine ⟨_,u,by simpa using e,?_⟩
   refine (Row.upd p (k:=j) (by omega) hx).congr fun b _=>?_
   unfold A04
   by_cases c:b=j
   ·rw [iP c,iP ⟨rfl,c⟩]
   ·rw [iN c,iN (fun x=>c x.2)]
  ·obtain ⟨A,m,D,C⟩:=t.row a l
   refine ⟨A,by rw [d];exact m.other (fun e=>f (t.inj a i l hi e)) _,D,C.congr fun b _=>?_⟩
   unfold A04
   rw [iN (fun x=>f x.1)]
def Mt.swap{P:cC}(t:Mt h g o bo rb n w M){i k:Nat}(hi:i<n)(hk:k<n){t':aZ}(one:P.cellsOf t'=1/\(P.info? t').isSome=true){ci ck:Nat}(hci:o.cell? (aC ⟨bo,0,none⟩ (i*1))=some (.slice (some ⟨rb i,0,none⟩) w ci))(hck:o.cell? (aC ⟨bo,0,none⟩ (k*1))=some (.slice (some ⟨rb k,0,none⟩) w ck))(hcw:w<=ci)(hcw2:w<=ck){X:Unit->aE->Prop}
 (xx:∀ h1,(∀ {K:Unit->aE->Prop},(∀ h' o',Mt h' g o' bo (fun a=>rb (xch i k a)) n w (fun a=>M (xch i k a))->(∀ k,k≠bo->o' k=o k)->K () h')->wpH P (aO t' (.pointer (some (aC ⟨bo,0,none⟩ (i*1)))) (.slice (some ⟨rb k,0,none⟩) w ck)) K h1)->X () h1):
 wpH P (aO t' (.pointer (some (aC ⟨bo,0,none⟩ (k*1)))) (.slice (some ⟨rb i,0,none⟩) w ci)) X h:=by
 obtain ⟨O,r,e,q⟩:=t.hd
 rw [E6,aN]
 refine Sep.store (E:=inferInstanceAs (Enc HV)) one (v:=.slice (some ⟨rb i,0,none⟩) w ci) (y:=(⟨some ⟨rb i,0,none⟩,w,ci⟩:HV)) rfl t.sep r (i:=k) (by omega) rfl ?_
 intro h1 R S z H J
 refine xx h1 (fun {K} kk=>?_)
 rw [E6,aN]
 refine Sep.store (E:=inferInstanceAs (Enc HV)) one (v:=.slice (some ⟨rb k,0,none⟩) w ck) (y:=(⟨some ⟨rb k,0,none⟩,w,ck⟩:HV)) rfl H J (i:=i) (by simpa using (by omega:i<O.length)) rfl ?_
 intro A C Q B D N
 have ko:∀ b,b≠bo->C b=o b:=fun b f=>by rw [B,B9 _ _ f,z,B9 _ _ f]
 have j:∀ a,a<n->xch i k a<n:=fun a d=>R6 hi hk d
 have m:∀ a b,xch i k a=xch i k b->a=b:=fun a b h=>by rw [<- A5g (k:=i) (l:=k) (i:=a),h,A5g]
 refine kk A C ⟨D,⟨_,N,by simpa using e,fun a d=>?_⟩,fun a d=>t.nb _ (j a d),fun a b d f h=>m a b (t.inj _ _ (j a d) (j b f) h),fun a d=>?_⟩ ko
 ·by_cases p:a=i
  ·subst p
   exact ⟨ck,by rw [bL (by simp;omega)];unfold xch;rw [iP rfl],hcw2⟩
  ·rw [bB (fun x=>p x.symm)]
   by_cases u:a=k
   ·subst u
    exact ⟨ci,by rw [bL (by omega)];unfold xch;rw [iN p,iP rfl],hcw⟩
   ·rw [bB (fun x=>u x.symm)]
    obtain ⟨c,h1,A⟩:=q a d
    exact ⟨c,by rw [h1];unfold xch;rw [iN p,iN u],A⟩
 ·obtain ⟨F,L,ex,G⟩:=t.row _ (j a d)
  obtain ⟨e,s,f⟩:=L
  exact ⟨F,⟨e,s,by rw [ko _ (t.nb _ (j a d))];exact f⟩,ex,G⟩
end
def RWr(w:Nat):aE->HV->(Nat->Rat)->Prop:=fun h s f=>s.n=w/\w<=s.c/\bV NQr h s.A w f
def A9z(w:Nat):Mon (RWr w):=fun _ _ _ _ l i=>⟨i.1,i.2.1,i.2.2.mono V8 l⟩
def RowsV.of{h:aE}{A:Option aI}{n w:Nat}{M:Nat->Nat->Rat}(r:bV (RWr w) h A n M):RowsV h A n w M:=r
def Wf{α:Type}[E:Enc α]{P:cC}{t e ty:aZ}{z:bD}{bytes:Nat}(st:SliceT P t e z E.default.size bytes){h g o:aE}(s:Sep h g o){A:Option aI}{B:Option aI}{d m:Nat}{ys:List α}(hm:m=ys.length)(hne:ys≠[])(sy:SlF h B ys)
 (hb:(2*ys.length+192)*bytes<=281474976710656) (hn:ys.length<=9223372036854775807) {K:VP}
 (x:∀ b c' h' g' o' y,o'=o.put b y->h b=none->g.le g'->Sep h' g' o'->ys.length<=c'->RowB o' b ys->K (.slice (some ⟨b,0,none⟩) m c') h'):wpH P (aS #[t,t] ty #[.slice A 0 0,.slice B m d]) K h:=by
 have p:PrivF h h e A 0 ([]:List α):=PrivF.nil h e A
 refine Kg st p hm sy (by simpa using hb) (by simpa using hn) ?_
 intro A' c' h' g' l f
 rw [List.nil_append] at f
 obtain ⟨b,y,D,a,q,_,r⟩:=B54 f hne
 obtain ⟨w,k,n⟩:=s.after l
 have i:=f.2.1
 have j:h b=none:=by
  cases hx:h b with
  | none=>rfl
  | some u=>rw [l b u hx] at a;cases a
 subst q
 obtain ⟨C,ex,c⟩:=r
 rw [C2] at c
 have:=x b c' _ w (o.put b y) y rfl j k (n.new a y) i ⟨C,ex,by rw [C2];exact c⟩
 rw [D,List.nil_append,<- hm]
 exact this
section
variable {h:aE} {K:VP} {A:Option aI} {n cap m w:Nat} {r c:Int} {ls:Nat->List UInt8} {M:Nat->Nat->Rat}
def B07(rv':bV SSr h A n ls)(hn:n<=1000000)(hl:LL n ls)
 (hK1:∀ rows cols,MOk r c n ls rows cols->∀ b h',h.le h'->RowsV h' (some ⟨b,0,none⟩) rows cols (mtx (rvs ls) cols)->K (.tuple #[.slice (some ⟨b,0,none⟩) rows rows,.bool true]) h')
 (hK0:¬ Mx r c n ls->∀ h',h.le h'->K (.tuple #[.slice none 0 0,.bool false]) h'):aV prog A6m #[Hb r c A n cap] h K:=by
 refine B8t _ _ _ _ _ ?_
 unfold C4s
 have no:∀ (_:¬ A74 r c n),K (.tuple #[.slice none 0 0,.bool false]) h:=fun Z=>hK0 (fun x=>Z (A8z.1 x).1) h (B5 _)
 refine B8 (fun e=>no fun s=>by have:=s.1;omega) (fun h1=>B8 (fun e=>no fun s=>by have:=s.2.1;omega) (fun S=>B8 (fun e=>no fun s=>by have:=s.2.2.1;omega) (fun J=>B8 (fun e=>no fun s=>by have:=s.2.2.2.1;omega) (fun X=>?_))))
 have V:r*c<=64*64:=Int.mul_le_mul (by omega) (by omega) (by omega) (by omega)
 have C:0<=r*c:=Int.mul_nonneg (by omega) (by omega)
 have ew:B7 (r*c)=r*c:=C0 (by omega) (by omega)
 rw [ew]
 refine I4 (fun e=>no fun s=>e s.2.2.2.2) (fun W=>?_)
 have Q:A74 r c n:=⟨by omega,by omega,by omega,by omega,W⟩
 refine B2r rv' hn hl (fun f b d own=>?_) (fun u h' l=>⟨_,_,_,_,rfl,hK0 (fun x=>u (A8z.1 x).2) h' l⟩)
 have mk:=MOk.of Q f
 generalize r.toNat=rows at mk
 generalize c.toNat=cols at mk
 have:=mk.r1;have:=mk.r2;have:=mk.c1;have:=mk.c2
 obtain ⟨rfl,rfl,_,_,_,_,rfl,_⟩:=id mk
 have R:=own.vis V8
 refine ⟨_,_,_,_,rfl,Q3 B6w (zx:=(⟨none,0,0⟩:HV)) rfl (by omega) (by omega) (by omega) (by omega) ?_⟩
 intro q t
 refine ⟨_,_,_,rfl,fun L m=>∃ k:Nat,k<=rows/\L=[I (k:Int)]/\OwnK (RWr cols) d m q rows k (mtx (rvs ls) cols),fun L _=>rows-(iAt L 0).toNat,⟨0,by omega,rfl,OwnK.zero t⟩,?_⟩
 rintro z m ⟨k,hk,T,g,o,G,p,s,F,B,E⟩
 obtain rfl:=sI1 T
 refine B8 (fun O=>?_) (fun aa=>?_)
 ·have j:k<rows:=by omega
  have S:(k+1)*cols<=rows*cols:=aF _ j
  have J:(k+1)*cols=k*cols+cols:=by rw [aL,aQ]
  have D:rows*cols<=64*64:=cH (by omega) (by omega)
  have w:B7 ((k:Int)+1)=((k+1:Nat):Int):=C0 (by omega) (by omega)
  have H:B7 ((k:Int)*(cols:Int))=((k*cols:Nat):Int):=by rw [<- bF];exact K3 (by omega)
  have N:B7 (B7 ((k:Int)+1)*(cols:Int))=(((k+1)*cols:Nat):Int):=by rw [w,<- bF];exact K3 (by omega)
  rw [H,N,w]
  refine ⟨⟨by omega,by omega⟩,⟨by omega,by simp only [aY];omega⟩,_,rfl,by omega,by omega,?_⟩
  simp only [aY]
  have e5:(k+1)*cols-k*cols=cols:=by omega
  rw [e5]
  have row:bV NQr d (H9 (some ⟨b,0,none⟩) (rows*cols) (k*cols) 4) cols (mtx (rvs ls) cols k):=R.cut (c:=rows*cols) (l:=k*cols) (k:=cols) (by omega) (aG _)
  refine OwnK.store (A9z cols) Ta (y:=(⟨H9 (some ⟨b,0,none⟩) (rows*cols) (k*cols) 4,cols,rows*cols-k*cols⟩:HV)) p (B5 _) s F (by simpa using B) E j rfl ⟨rfl,by show cols<=rows*cols-k*cols;omega,row.mono V8 p⟩ ?_
  intro X M
  exact ⟨⟨k+1,by omega,rfl,M⟩,by simp only [U9];omega⟩
 ·have:k=rows:=by omega
  subst this
  have a:Own (RWr cols) d m q k (mtx (rvs ls) cols):=⟨g,o,G,p,s,F,B,E⟩
  exact hK1 _ _ mk q m (B0 own.le a.le) (RowsV.of (a.vis (A9z cols)))
def Qf{rcap:Nat}(rs:RowsV h A n w M)(hn:n<=1000000)(hw1:1<=w)(hw:w<=1000000)(hn1:1<=n)
 (hK:∀ h' g' o' bo rb c',h.le g'->Mt h' g' o' bo rb n w M->K (.slice (some ⟨bo,0,none⟩) n c') h'):aV prog Vl #[.slice A n rcap] h K:=by
 refine B8v _ _ _ ?_
 unfold C4u
 refine ⟨fun L hp=>∃ (k:Nat) (g o:aE) (F:List HV) (rb:Nat->Nat) (A':Option aI) (c':Nat),k<=n/\L=[.slice A' k c',I (k:Int)]/\h.le g/\Sep hp g o/\OwnSl o F8 A' c' F/\F.length=k/\(∀ i,i<k->∃ c,F[i]? = some ⟨some ⟨rb i,0,none⟩,w,c⟩/\w<=c)/\(∀ i,i<k->A'≠some ⟨rb i,0,none⟩)/\(∀ i j,i<k->j<k->rb i=rb j->i=j)/\∀ i,i<k->∃ r:List QV,RowB o (rb i) r/\r.length=w/\Row NQr g r w (M i),fun L _=>n-(iAt L 1).toNat,
  ⟨0,h,U1,[],fun _=>0,none,0,by omega,rfl,B5 _,Sep.refl h,OwnSl.nil,rfl,fun i l=>by omega,fun i l=>by omega,fun i j l=>by omega,fun i l=>by omega⟩,?_⟩
 rintro oA on oc z hp ⟨k,g,o,F,rb,A',c',hk,eL,T,s,ow,b,B,D,u,f⟩
 obtain ⟨⟨rfl,rfl,rfl⟩,rfl⟩:=sI2 eL
 refine B8 (fun ai=>?_) (fun al=>?_)
 ·have aa:on<n:=by omega
  refine Qb Sg ?_
  intro be E
  have S:=s.vis E (.cells #[] E7)
  have J:g.le (g.put be (.cells #[] E7)):=Heap.le_put _ (by
   cases t:g be with
   | none=>rfl
   | some y=>rw [s.le _ _ t] at E;cases E)
  have Q:=B0 T J
  obtain ⟨a,sv,ea,G,H,hc,r,sx,R,qx⟩:=rs.at aa
  refine ⟨_,_,_,rfl,a,ea,by omega,by omega,_,_,_,C1 (B0 Q S.le) hc,?_⟩
  refine Wf Sg S (ys:=r) (by omega) (by rintro rfl;simp at R;omega) (sx.mono (B0 Q S.le)) (by omega) (by omega) ?_
  intro m c2 h2 g2 o2 y eo O l2 s2 ak ab
  refine ⟨_,_,_,rfl,?_⟩
  have d:∀ q x,o q=some x->q≠m:=by
   rintro q x e rfl
   have:=S.ole q x e
   rw [this] at O;cases O
  have ad:OwnSl o2 F8 oA oc F:=ow.keep fun q x _ e=>by rw [eo,B9 _ _ (d q x e)];exact e
  have ag:oA≠some ⟨m,0,none⟩:=by
   intro hA
   rcases ow.2 with ⟨_,h0⟩|⟨b',aj,C,Z,_⟩
   ·rw [hA] at h0;cases h0
   ·rw [hA] at C
    simp only [aJ,aP,and_true] at C
    exact d _ _ Z C.symm
  refine L7 (ty:=L9) B6w s2 ad b.symm (y:=(⟨some ⟨m,0,none⟩,sv.n,c2⟩:HV)) rfl (by decide) (by rw [b];omega) (by rw [b];omega) ?_
  intro A3 c3 h3 g3 o3 l3 s3 V kp
  have kq:∀ i,i<on->∃ x,o (rb i)=some x:=fun i l=>by
   obtain ⟨r,⟨e,ex,hb⟩,_⟩:=f i l;exact ⟨_,hb⟩
  obtain ⟨e5,ae,af⟩:=id ab
  have k2:=kp m _ af ag
  rw [b,wiS on (by omega)]
  have p:=B0 J (B0 l2 l3)
  refine ⟨⟨on+1,g3,o3,_,fun i=>if i=on then m else rb i,A3,c3,by omega,rfl,B0 T p,s3,V,by rw [aD,b];rfl,fun i l=>?_,fun i l=>?_,fun i j l hj h=>?_,fun i l=>?_⟩,?_⟩
  ·show ∃ c,(F++[(⟨some ⟨m,0,none⟩,sv.n,c2⟩:HV)])[i]? = some ⟨some ⟨if i=on then m else rb i,0,none⟩,w,c⟩/\w<=c
   by_cases e:i=on
   ·subst e
    exact ⟨c2,by rw [aR (by omega),b,iP rfl,G];simp,by omega⟩
   ·obtain ⟨c,h1,h2⟩:=B i (by omega)
    exact ⟨c,by rw [aM (by omega),iN e];exact h1,h2⟩
  ·show A3≠some ⟨if i=on then m else rb i,0,none⟩
   by_cases e:i=on
   ·rw [iP e];exact k2.2
   ·rw [iN e]
    obtain ⟨x,t⟩:=kq i (by omega)
    exact (kp (rb i) x (by rw [eo,B9 _ _ (d _ _ t)];exact t) (D i (by omega))).2
  ·have h':(if i=on then m else rb i)=(if j=on then m else rb j):=h
   by_cases G:i=on
   ·by_cases H:j=on
    ·omega
    ·rw [iP G,iN H] at h'
     obtain ⟨x,t⟩:=kq j (by omega)
     exact absurd h'.symm (d _ _ t)
   ·by_cases H:j=on
    ·rw [iN G,iP H] at h'
     obtain ⟨x,t⟩:=kq i (by omega)
     exact absurd h' (d _ _ t)
    ·rw [iN G,iN H] at h'
     exact u i j (by omega) (by omega) h'
  ·show ∃ r:List QV,RowB o3 (if i=on then m else rb i) r/\_
   by_cases e:i=on
   ·subst e
    rw [iP rfl]
    exact ⟨r,⟨e5,ae,k2.1⟩,R,qx.mono V8 (B0 T p)⟩
   ·rw [iN e]
    obtain ⟨ys,⟨ey,ac,N⟩,ah,qy⟩:=f i (by omega)
    refine ⟨ys,⟨ey,ac,?_⟩,ah,qy.mono V8 p⟩
    exact (kp (rb i) _ (by rw [eo,B9 _ _ (d _ _ N)];exact N) (D i (by omega))).1
  ·show n-((on+1:Nat):Int).toNat<n-((on:Nat):Int).toNat
   omega
 ·have W:on=n:=by omega
  subst W
  obtain ⟨bo,rfl,X⟩:=ow.rowB (by rintro rfl;simp at b;omega)
  exact hK hp g o bo rb oc T ⟨s,⟨F,X,b,B⟩,fun i l e=>D i l (by rw [e]),u,f⟩
end
section
variable {α:Type} [E:Enc α]
def OwnSl.app{P:cC}{t e ty:aZ}{z:bD}{bytes:Nat}(st:SliceT P t e z E.default.size bytes){h g o:aE}{A:Option aI}{c:Nat}{xs:List α}(s:Sep h g o)(w:OwnSl o e A c xs){B:Option aI}{d m n:Nat}{ys:List α}(hxn:n=xs.length)(hm:m=ys.length)(hne:ys≠[])(sy:SlF h B ys)(hb:(2*(xs.length+ys.length)+192)*bytes<=281474976710656)(hn:xs.length+ys.length<=9223372036854775807){K:VP}
 (x:∀ A' c' h' g' o',g.le g'->Sep h' g' o'->OwnSl o' e A' c' (xs++ys)->(∀ k u,o k=some u->A≠some ⟨k,0,none⟩->o' k=some u/\A'≠some ⟨k,0,none⟩)->K (.slice A' (xs.length+m) c') h'):
 wpH P (aS #[t,t] ty #[.slice A n c,.slice B m d]) K h:=by
 subst hxn
 obtain ⟨gb,p,F⟩:=w.priv s
 refine Kg st p hm sy hb hn ?_
 intro A' c' h' g' X Q
 rw [aD,<- hm]
 have G:∀ k u,h k=some u->A≠some ⟨k,0,none⟩->g' k=some u:=by
  intro k u a hne
  exact X k u (F k u a hne)
 have R:∀ k u,g k=some u->A≠some ⟨k,0,none⟩:=by
  intro k u a j
  rcases w.2 with ⟨_,W⟩|⟨f,l,i,q,_⟩
  ·rw [j] at W;cases W
  ·rw [j] at i
   simp only [aJ,aP,and_true] at i
   subst i
   rw [s.dis k _ q] at a;cases a
 rcases Q.2.2 with ⟨Z,_⟩|⟨f,l,i,q,L,ha,ht⟩
 ·exfalso
  have:=Q.2.1
  rw [aD] at this
  have:ys.length≠0:=fun h=>hne (bO h)
  omega
 ·subst i
  let o':aE:=fun k=>if k=f then some (.cells (bK l) e) else if A=some ⟨k,0,none⟩ then none else o k
  have V:o' f=some (.cells (bK l) e):=by show (if f=f then _ else _)=_;rw [iP rfl]
  have ok:∀ k,k≠f->A≠some ⟨k,0,none⟩->o' k=o k:=fun k J D=>by show (if k=f then _ else if _ then _ else _)=_;rw [iN J,iN D]
  have M:∀ k,k≠f->A=some ⟨k,0,none⟩->o' k=none:=fun k J D=>by show (if k=f then _ else if _ then _ else _)=_;rw [iN J,iP D]
  let g2:aE:=fun k=>match o' k with|some _=>none|none=>h' k
  have gs:∀ k u,o' k=some u->g2 k=none:=fun k u a=>by show (match o' k with|some _=>none|none=>h' k)=_;rw [a]
  have T:∀ k,o' k=none->g2 k=h' k:=fun k a=>by show (match o' k with|some _=>none|none=>h' k)=_;rw [a]
  have r:∀ k u,k≠f->g' k=some u->h' k=some u:=fun k u J a=>by rw [L,B9 _ _ J];exact a
  have H:∀ k u,o k=some u->A≠some ⟨k,0,none⟩->k≠f:=by
   rintro k u a D rfl
   have:=G k u (s.own k u a) D
   rw [q] at this;cases this
  refine x _ c' h' g2 o' (fun k u a=>?_) ⟨fun k u a=>?_,fun k a=>(T k a).symm,gs⟩ ⟨Q.2.1,.inr ⟨f,l,rfl,V,ha,ht⟩⟩ (fun k u a D=>?_)
  ·have O:o k=none:=by
    cases ho:o k with
    | none=>rfl
    | some y=>rw [s.dis k y ho] at a;cases a
   have j:=R k u a
   have N:=G k u (s.le k u a) j
   have C:k≠f:=by rintro rfl;rw [q] at N;cases N
   rw [T k (by rw [ok k C j];exact O)]
   exact r k u C N
  ·by_cases b:k=f
   ·subst b
    rw [V] at a;cases a
    rw [L,C2]
   ·by_cases j:A=some ⟨k,0,none⟩
    ·rw [M k b j] at a;cases a
    ·rw [ok k b j] at a
     exact r k u b (G k u (s.own k u a) j)
  ·have b:=H k u a D
   refine ⟨by rw [ok k b D];exact a,fun S=>b ?_⟩
   simp only [aJ,aP,and_true] at S
   exact S.symm
end
def Db(M:Nat->Nat->Rat)(w:Nat):Nat->List UInt8:=fun k=>K9 (M (k/w) (k%w))
section
variable {h:aE} {K:VP} {A:Option aI} {n cap m w:Nat} {M:Nat->Nat->Rat}
def Qe(rs:RowsV h A n w M)(hn:n<=10000)(hw1:1<=w)(hw:w<=10000)(hn1:1<=n)(hs:∀ i j,i<n->j<w->Sz m (M i j))(hm:m<=400000000)
 (hK:∀ A' c' h',h.le h'->n*w<=c'->bV SSr h' A' (n*w) (Db M w)->K (Hb n w A' (n*w) c') h'):aV prog Lw #[.slice A n cap] h K:=by
 refine B8u _ _ _ ?_
 unfold C4t
 refine E5 (fun e=>by omega) (fun _=>?_)
 obtain ⟨a,sv,rfl,q,e2,Z,_⟩:=rs.at (i:=0) (by omega)
 have T:n*w<=10000*10000:=cH hn hw
 refine ⟨a,rfl,by omega,by omega,_,_,_,Z,fun L G=>∃ (k:Nat) (g o:aE) (l:List (List UInt8)) (A':Option aI) (c':Nat),k<=n/\L=[I (k:Int),I (n:Int),I (w:Int),.slice A' (k*w) c']/\h.le g/\Sep G g o/\OwnSl o W6 A' c' l/\l.length=k*w/\Row SSr g l (k*w) (Db M w),fun L _=>n-(iAt L 0).toNat,⟨0,h,U1,[],none,0,by omega,by rw [q,Nat.zero_mul];rfl,B5 _,Sep.refl h,OwnSl.nil,by simp,by rw [Nat.zero_mul];exact Row.nil⟩,?_⟩
 rintro z m0 m1 mA mn R G ⟨k,g,o,l,A',c',hk,Q,t,s,C,b,O⟩
 simp only [aX,bU,aT,true_and,and_true] at Q
 obtain ⟨rfl,rfl,rfl,rfl,rfl,rfl⟩:=Q
 refine B8 (fun aa=>?_) (fun ab=>?_)
 ·have d:k<n:=by omega
  obtain ⟨a1,s1,ea,f1,f2,F,row⟩:=rs.at d
  have E:=B0 t s.le
  have r:(k+1)*w=k*w+w:=by rw [aL,aQ]
  have W:(k+1)*w<=n*w:=aF _ d
  refine ⟨a1,ea,by omega,by omega,_,_,_,C1 E F,?_⟩
  rw [f1]
  refine s.call (Ye (row.mono V8 t) (by omega) (fun j V=>hs k j d V) (by omega) ?_)
  intro b2 g2 own h2 B
  have p:=own.le
  obtain ⟨ys,sy,c,qy⟩:=own.vis O3
  refine ⟨_,_,_,rfl,s.le_le B p,?_⟩
  refine OwnSl.app (ty:=Kv) Dn B C (by omega) c.symm (by rintro rfl;simp at c;omega) (sy.mono B.le) (by omega) (by omega) ?_
  intro A3 c3 h3 S X l3 s3 y _
  rw [b,<- r,wiS k (by omega)]
  refine ⟨_,_,_,rfl,⟨k+1,S,X,_,A3,c3,by omega,rfl,B0 t (B0 p l3),s3,y,by rw [aD,b,c,r],fun i hi=>?_⟩,by simp only [U9];omega⟩
  by_cases e:i<k*w
  ·obtain ⟨u,q,J⟩:=O i e
   exact ⟨u,by rw [aM (by omega)];exact q,J⟩
  ·obtain ⟨j0,rfl⟩:∃ j0,i=k*w+j0:=⟨i-k*w,by omega⟩
   have f:j0<w:=by omega
   obtain ⟨u,q,J⟩:=qy j0 f
   refine ⟨u,by rw [aR (by omega),b,cW];exact q,?_⟩
   have H:u=K9 (M k j0):=J
   have hd:(k*w+j0)/w=k:=by rw [bJ,cP (by omega),cM f,cF]
   have D:(k*w+j0)%w=j0:=by rw [bJ,Nat.mul_add_mod,Nat.mod_eq_of_lt f]
   show u=Db M w (k*w+j0)
   unfold Db
   rw [hd,D];exact H
 ·have:k=n:=by omega
  subst this
  have N:=C.1
  exact hK mA R G (B0 t s.le) (by omega) ⟨l,C.slF s.ole,b,O.mono O3 s.le⟩
end
abbrev ecE(M:Nat->Nat->Rat)(n c:Nat):ES:=B1b n ⟨M,[],1⟩ c
def B26{n:Nat}{s:ES}{c:Nat}(h:n<=(B1b n s c).cs.length):∀ d,B1b n s (c+d)=B1b n s c:=by
 intro d
 induction d with
 | zero=>rfl
 | succ d ih=>
  show Hu n (c+d) (B1b n s (c+d))=_
  rw [ih]
  unfold Hu
  rw [iN (by omega)]
def A1m(M:Nat->Nat->Rat)(n:Nat):∀ c,(ecE M n c).cs.length<=c/\(ecE M n c).cs.length<=n:=by
 intro c
 induction c with
 | zero=>exact ⟨aG _,bY _⟩
 | succ c ih=>
  show (Hu n c (ecE M n c)).cs.length<=c+1/\(Hu n c (ecE M n c)).cs.length<=n
  unfold Hu
  split
  ·split
   ·show ((ecE M n c).cs++[c]).length<=c+1/\((ecE M n c).cs++[c]).length<=n
    rw [aD]
    exact ⟨Nat.succ_le_succ ih.1,by simp only [List.length_cons,List.length_nil];omega⟩
   ·show (ecE M n c).cs.length<=c+1/\_
    exact ⟨bZ ih.1,ih.2⟩
  ·exact ⟨bZ ih.1,ih.2⟩
def B09(M:Nat->Nat->Rat)(n c:Nat):Rat:=if (ecE M n c).cs.length<c then 0 else (ecE M n c).det
abbrev qc(w:QV):List bD:=[.bool w.s,.slice w.A w.n w.c,.bool w.s2,.slice w.A2 w.n2 w.c2]
def C3i{w:QV}{a b:Bool}{A B:Option aI}{n c n' c':Nat}{l l':List bD}(h:(.bool a:bD) :: .slice A n c :: .bool b :: .slice B n' c'::l= .bool w.s :: .slice w.A w.n w.c :: .bool w.s2 :: .slice w.A2 w.n2 w.c2::l'):(⟨a,A,n,c,b,B,n',c'⟩:QV)=w/\l=l':=by
 simp only [aX,bM,aT] at h
 obtain ⟨rfl,⟨rfl,rfl,rfl⟩,rfl,⟨rfl,rfl,rfl⟩,h⟩:=h
 exact ⟨rfl,h⟩
def Sf(bo:Nat)(rb:Nat->Nat)(n:Nat)(A:Option aI):Prop:=A≠some ⟨bo,0,none⟩/\∀ i,i<n->A≠some ⟨rb i,0,none⟩
section
variable {g o h11 h14 h15 hp2:aE} {bo n w r c i B:Nat} {rb:Nat->Nat} {R:Nat->Nat->Rat} {x:QV} {q:Rat} {Invv Invv3:LP} {muv muv3:LN}
def C65(t:Mt h15 g o bo rb n w R)(hi:i<n)(hr:r<n)(hir:i≠r)(hcw:c<=w)(hn:n<=10000)(hw:w<=10000)(ix:NQ g x q)(s1:∀ b,b<w->Sz B (R i b))(s2:∀ b,b<w->Sz (B+B) (R r b))(s3:Sz B q)(hB:B*7<=100000000)
 (fin:∀ h' g' o',g.le g'->Mt h' g' o' bo rb n w (fun a b=>if a=i/\c<=b then R i b-q*R r b else R a b)->(∀ b,(∀ i,i<n->b≠rb i)->o' b=o b)->Invv3 [I (B7 ((i:Int)+1))] h'/\muv3 [I (B7 ((i:Int)+1))] h'<muv3 [I (i:Int)] h14):
 Md prog (some ⟨bo,0,none⟩) n r (c:Int) Invv3 muv3 (i:Int) x.s x.A x.n x.c x.s2 x.A2 x.n2 x.c2 h15 h14:=by
 unfold Md
 refine ⟨fun L hq=>∃ (k:Nat) (g' o':aE),c<=k/\k<=w/\L=[I (k:Int)]/\g.le g'/\Mt hq g' o' bo rb n w (fun a b=>if a=i/\c<=b/\b<k then R i b-q*R r b else R a b)/\(∀ b,(∀ i,i<n->b≠rb i)->o' b=o b),fun L _=>w-(iAt L 0).toNat,⟨c,g,o,aG _,hcw,rfl,B5 _,t.congr (fun a b _ _=>by rw [iN (by omega)]),fun _ _=>rfl⟩,?_⟩
 rintro z S ⟨k,g6,o6,N,ab,F,Q,e,u⟩
 obtain rfl:=sI1 F
 obtain ⟨c6,X,J⟩:=e.head hi
 have l:=e.sep.cell J
 refine ⟨_,rfl,by omega,by omega,_,_,_,l,B8 (fun ac=>?_) (fun ag=>?_)⟩
 ·have d:k<w:=by omega
  obtain ⟨c7,ae,M⟩:=e.head hr
  obtain ⟨y,T,y0,y1,W,y3⟩:=e.elem hi d
  obtain ⟨v,V,v0,v1,v2,v3⟩:=e.elem hr d
  rw [iN (by omega)] at T
  rw [iN (fun x=>hir x.1.symm)] at V
  refine ⟨_,rfl,by omega,by omega,_,_,_,l,_,rfl,by omega,by omega,_,_,_,l,_,rfl,by omega,by omega,_,_,_,_,_,_,_,_,e.sep.cell y0,e.sep.cell y1,e.sep.cell W,e.sep.cell y3,_,rfl,by omega,by omega,_,_,_,e.sep.cell M,_,rfl,by omega,by omega,_,_,_,_,_,_,_,_,e.sep.cell v0,e.sep.cell v1,e.sep.cell v2,e.sep.cell v3,?_⟩
  refine e.sep.call (Ia (ix.mono Q) V (s3.mono (show B<=B+B by omega)) (s2 k d) (by omega) ?_)
  intro w7 g7 D Z ad f
  have t7:=e.next f D
  refine ⟨_,_,_,_,_,_,_,_,rfl,e.sep.le_le f D,?_⟩
  refine f.call (Hy (T.mono D) Z ((s1 k d).mono (show B<=B+(B+B) by omega)) (s3.mul (s2 k d)) (by omega) ?_)
  intro w8 g8 G i8 af p
  have t8:=t7.next p G
  refine ⟨_,_,_,_,_,_,_,_,rfl,f.le_le p G,_,rfl,by omega,by omega,?_⟩
  refine t8.store hi d (x:=w8) i8 ?_
  intro aa H O m
  rw [wiS k (by omega)]
  refine ⟨⟨k+1,g8,H,by omega,by omega,rfl,B0 Q (B0 D G),O.congr (fun a b _ _=>?_),fun b C=>by rw [m b (C _ hi),u b C]⟩,by simp only [U9];omega⟩
  show (if a=i/\b=k then R i k-q*R r k else if a=i/\c<=b/\b<k then R i b-q*R r b else R a b)=if a=i/\c<=b/\b<k+1 then R i b-q*R r b else R a b
  by_cases j:a=i/\b=k
  ·obtain ⟨rfl,rfl⟩:=j
   rw [iP ⟨rfl,rfl⟩,iP ⟨rfl,N,by omega⟩]
  ·rw [iN j]
   by_cases E:a=i/\c<=b/\b<k
   ·rw [iP E,iP ⟨E.1,E.2.1,by omega⟩]
   ·rw [iN E,iN (by omega)]
 ·have d:k=w:=by omega
  subst d
  refine fin S g6 o6 Q (e.congr (fun a b _ C=>?_)) u
  by_cases j:a=i/\c<=b
  ·rw [iP j,iP ⟨j.1,j.2,C⟩]
  ·rw [iN j,iN (fun x=>j ⟨x.1,x.2.1⟩)]
def C66{pA:Option aI}{pc:Nat}{d0 d2 e0 e2:Bool}{d1A d3A e1A e3A:Option aI}{d1n d1c d3n d3c e1n e1c e3n e3c:Nat}(t:Mt h11 g o bo rb n w (fun a b=>if a=r then R r b/R r c else R a b))(hr:r<n)(hcw:c<w)(hn:n<=10000)(hw:w<=10000)(hB1:1<=B)(hR:∀ a b,a<n->b<w->Sz B (R a b))(hB:B*7<=100000000)
 (fin:∀ h' g' o',g.le g'->Mt h' g' o' bo rb n w (elimE R r c)->(∀ b,(∀ i,i<n->b≠rb i)->o' b=o b)->wpH prog (bC Fp 1 #[(0,I (c:Int))]) (fun v hp20=>∃ (t167A:Option aI) (t167n:Nat) (t167c:Nat),v= .slice t167A t167n t167c/\wpH prog (aS #[Fp,Fp] Fp #[.slice pA r pc,.slice t167A t167n t167c]) (fun v1 hp21=>∃ (t168A:Option aI) (t168n:Nat) (t168c:Nat),v1= .slice t168A t168n t168c/\Invv [.slice t168A t168n t168c,I (B7 ((c:Int)+(1:Int))),.bool e0,.slice e1A e1n e1c,.bool e2,.slice e3A e3n e3c] hp21/\muv [.slice t168A t168n t168c,I (B7 ((c:Int)+(1:Int))),.bool e0,.slice e1A e1n e1c,.bool e2,.slice e3A e3n e3c] hp21<muv [.slice pA r pc,I (c:Int),.bool d0,.slice d1A d1n d1c,.bool d2,.slice d3A d3n d3c] hp2) hp20) h'):
 Gy prog (some ⟨bo,0,none⟩) n Invv muv pA r pc (c:Int) d0 d1A d1n d1c d2 d3A d3n d3c e0 e1A e1n e1c e2 e3A e3n e3c hp2 h11:=by
 unfold Gy
 refine ⟨fun L m=>∃ (i:Nat) (g' o':aE),i<=n/\L=[I (i:Int)]/\g.le g'/\Mt m g' o' bo rb n w (fun a b=>if a=r then R r b/R r c else if a<i then elimE R r c a b else R a b)/\(∀ b,(∀ i,i<n->b≠rb i)->o' b=o b),fun L _=>n-(iAt L 0).toNat,⟨0,g,o,by omega,rfl,B5 _,t.congr (fun a b _ l=>?_),fun _ _=>rfl⟩,?_⟩
 ·by_cases d:a=r
  ·rw [iP d,iP d]
  ·rw [iN d,iN d,iN (by omega)]
 rintro z q ⟨i,M,Q,hi,D,E,k,p⟩
 obtain rfl:=sI1 D
 have u:B7 ((i:Int)+1)=((i+1:Nat):Int):=by rw [C0]<;>omega
 refine B8 (fun N=>?_) (fun O=>?_)
 ·have j:i<n:=by omega
  obtain ⟨c5,W,J⟩:=k.head j
  obtain ⟨x,F,Z,x1,T,X⟩:=k.elem j hcw
  refine ⟨_,rfl,by omega,by omega,_,_,_,k.sep.cell J,_,rfl,by omega,by omega,_,_,_,_,_,_,_,_,k.sep.cell Z,k.sep.cell x1,k.sep.cell T,k.sep.cell X,?_⟩
  have same:∀ (m:i=r\/R i c=0),(∃ (i':Nat) (g' o':aE),i'<=n/\[I (B7 ((i:Int)+1))]=[I (i':Int)]/\g.le g'/\Mt q g' o' bo rb n w (fun a b=>if a=r then R r b/R r c else if a<i' then elimE R r c a b else R a b)/\(∀ b,(∀ i,i<n->b≠rb i)->o' b=o b))/\n-(iAt [I (B7 ((i:Int)+1))] 0).toNat<n-(iAt [I (i:Int)] 0).toNat:=by
   intro m
   rw [u]
   refine ⟨⟨i+1,M,Q,by omega,rfl,E,k.congr (fun a b _ _=>?_),p⟩,by simp only [U9];omega⟩
   by_cases d:a=r
   ·rw [iP d,iP d]
   ·rw [iN d,iN d]
    by_cases s:a<i
    ·rw [iP s,iP (by omega)]
    ·rw [iN s]
     by_cases S:a<i+1
     ·rw [iP S]
      have:a=i:=by omega
      subst this
      rcases m with m|m
      ·exact absurd m d
      ·unfold elimE
       rw [iN d,iP (.inl m)]
     ·rw [iN S]
  refine E5 (fun V=>same (.inl (by omega))) (fun V=>?_)
  have f:i≠r:=by omega
  rw [iN f,iN (aU i)] at F
  refine Q7 (F.mono k.sep.le) ⟨_,rfl,E5 (fun e=>?_) (fun e=>?_)⟩
  ·exact same (.inr (by rw [cT] at e;exact Rat.num_eq_zero.1 e))
  have G:R i c≠0:=fun h=>e (by rw [h];rfl)
  refine C65 (B:=B) k j hr f (by omega) hn hw F (fun b l=>by rw [iN f,iN (aU i)];exact hR i b j l) (fun b l=>by rw [iP rfl];exact (hR r b hr l).div (hR r c hr hcw) hB1) (hR i c j hcw) hB ?_
  intro aa g6 o6 l6 t6 C
  rw [u]
  refine ⟨⟨i+1,g6,o6,by omega,rfl,B0 E l6,t6.congr (fun a b _ l=>?_),fun b l=>by rw [C b l,p b l]⟩,by simp only [U9];omega⟩
  by_cases d:a=i
  ·subst d
   rw [iN f,iP (show a<a+1 by omega)]
   unfold elimE
   rw [iN f]
   by_cases y:c<=b
   ·have H:¬ (R a c=0\/b<c):=by
     rintro (h|h)
     ·exact G h
     ·omega
    rw [iP ⟨rfl,y⟩,iN f,iN (aU a),iP rfl,iN H]
   ·rw [iN (fun x=>y x.2),iN f,iN (aU a),iP (.inr (by omega))]
  ·rw [iN (fun x=>d x.1)]
   by_cases A:a=r
   ·rw [iP A,iP A]
   ·rw [iN A,iN A]
    by_cases s:a<i
    ·rw [iP s,iP (by omega)]
    ·rw [iN s,iN (by omega)]
 ·have j:i=n:=by omega
  subst j
  exact fin q M Q E (k.congr (fun a b ha _=>by
   by_cases d:a=r
   ·rw [iP d];unfold elimE;rw [iP d]
   ·rw [iN d,iP ha])) p
def C67{h10:aE}{xf:QV}{pA:Option aI}{pc:Nat}{d0 d2 e0 e2:Bool}{d1A d3A e1A e3A:Option aI}{d1n d1c d3n d3c e1n e1c e3n e3c:Nat}(t:Mt h10 g o bo rb n w R)(hr:r<n)(hcw:c<w)(hn:n<=10000)(hw:w<=10000)(ixf:NQ g xf (R r c))(hR:∀ b,b<w->Sz B (R r b))(hB:B*7<=100000000)
 (fin:∀ h' g' o',g.le g'->Mt h' g' o' bo rb n w (fun a b=>if a=r then R r b/R r c else R a b)->(∀ b,(∀ i,i<n->b≠rb i)->o' b=o b)->Gy prog (some ⟨bo,0,none⟩) n Invv muv pA r pc (c:Int) d0 d1A d1n d1c d2 d3A d3n d3c e0 e1A e1n e1c e2 e3A e3n e3c hp2 h'):
 Me prog (some ⟨bo,0,none⟩) n Invv muv pA r pc (c:Int) d0 d1A d1n d1c d2 d3A d3n d3c xf.s xf.A xf.n xf.c xf.s2 xf.A2 xf.n2 xf.c2 e0 e1A e1n e1c e2 e3A e3n e3c h10 hp2:=by
 unfold Me
 refine ⟨fun L Q=>∃ (j:Nat) (g' o':aE),j<=w/\L=[I (j:Int)]/\g.le g'/\Mt Q g' o' bo rb n w (fun a b=>if a=r/\b<j then R r b/R r c else R a b)/\(∀ b,(∀ i,i<n->b≠rb i)->o' b=o b),fun L _=>w-(iAt L 0).toNat,⟨0,g,o,by omega,rfl,B5 _,t.congr (fun a b _ _=>by rw [iN (by omega)]),fun _ _=>rfl⟩,?_⟩
 rintro z u ⟨j,g4,T,hj,y,G,d,m⟩
 obtain rfl:=sI1 y
 obtain ⟨X,J,F⟩:=d.head hr
 have f:=d.sep.cell F
 refine ⟨_,rfl,by omega,by omega,_,_,_,f,B8 (fun aa=>?_) (fun ac=>?_)⟩
 ·have e:j<w:=by omega
  obtain ⟨x,M,x0,x1,N,V⟩:=d.elem hr e
  rw [iN (by omega)] at M
  refine ⟨_,rfl,by omega,by omega,_,_,_,f,_,rfl,by omega,by omega,_,_,_,f,_,rfl,by omega,by omega,_,_,_,_,_,_,_,_,d.sep.cell x0,d.sep.cell x1,d.sep.cell N,d.sep.cell V,?_⟩
  refine d.sep.call (Ue M (ixf.mono G) (hR _ e) (hR _ hcw) (by omega) ?_)
  intro S O E i5 W k
  refine ⟨_,_,_,_,_,_,_,_,rfl,d.sep.le_le k E,_,rfl,by omega,by omega,?_⟩
  have Z:=d.next k E
  refine Z.store hr e (x:=S) i5 ?_
  intro ab D C l
  rw [wiS j (by omega)]
  refine ⟨⟨j+1,O,D,by omega,rfl,B0 G E,C.congr (fun a b _ _=>?_),fun b p=>by rw [l b (p _ hr),m b p]⟩,by simp only [U9];omega⟩
  show (if a=r/\b=j then R r j/R r c else if a=r/\b<j then R r b/R r c else R a b)=if a=r/\b<j+1 then R r b/R r c else R a b
  by_cases H:a=r/\b=j
  ·obtain ⟨rfl,rfl⟩:=H
   rw [iP ⟨rfl,rfl⟩,iP ⟨rfl,by omega⟩]
  ·rw [iN H]
   by_cases e2:a=r/\b<j
   ·rw [iP e2,iP ⟨e2.1,by omega⟩]
   ·rw [iN e2,iN (by omega)]
 ·have e:j=w:=by omega
  subst e
  refine fin u g4 T G (d.congr (fun a b _ p=>?_)) m
  by_cases q:a=r
  ·rw [iP ⟨q,p⟩,iP q]
  ·rw [iN (fun x=>q x.1),iN q]
end
section
variable {g o h5 h9 hp2:aE} {bo n w r c B k:Nat} {rb:Nat->Nat} {R:Nat->Nat->Rat} {q:Rat} {Invv:LP} {muv:LN} {pA:Option aI} {pc:Nat} {wd wd0:QV} {l:List Nat}
def C68(hl:l.length=r)(t:Mt h9 g o bo rb n w R)(ow:OwnSl o F9 pA pc (zs l))(ap:Sf bo rb n pA)(iq:NQ g wd q)(hr:r<n)(hcw:c<w)(hn:n<=10000)(hw:w<=10000)(hB1:1<=B)(hq:Sz B q)(hR:∀ a b,a<n->b<w->Sz B (R a b))(hB:B*7<=100000000)
 (fin:∀ h' g' o' A' c' wd',g.le g'->Mt h' g' o' bo rb n w (elimE R r c)->OwnSl o' F9 A' c' (zs (l++[c]))->Sf bo rb n A'->NQ g' wd' (q*R r c)->Invv (.slice A' (r+1) c'::I (B7 ((c:Int)+1))::qc wd') h'/\muv (.slice A' (r+1) c'::I (B7 ((c:Int)+1))::qc wd') h'<muv (.slice pA r pc::I (c:Int)::qc wd0) hp2):
 Mh prog (some ⟨bo,0,none⟩) n Invv muv pA r pc (c:Int) wd0.s wd0.A wd0.n wd0.c wd0.s2 wd0.A2 wd0.n2 wd0.c2 wd.s wd.A wd.n wd.c wd.s2 wd.A2 wd.n2 wd.c2 hp2 h9:=by
 unfold Mh
 obtain ⟨ch,ac,kh⟩:=t.head hr
 obtain ⟨xf,j,F,M,J,G⟩:=t.elem hr hcw
 refine ⟨_,rfl,by omega,by omega,_,_,_,t.sep.cell kh,_,rfl,by omega,by omega,_,_,_,_,_,_,_,_,t.sep.cell F,t.sep.cell M,t.sep.cell J,t.sep.cell G,?_⟩
 refine t.sep.call (Ia iq j hq (hR _ _ hr hcw) (by omega) ?_)
 intro E g3 N i4 ab u
 refine ⟨_,_,_,_,_,_,_,_,rfl,?_⟩
 refine C67 (B:=B) (t.next u N) hr hcw hn hw (j.mono N) (fun b p=>hR _ b hr p) hB ?_
 intro aa g4 o4 X t4 T
 refine C66 (B:=B) t4 hr hcw hn hw hB1 hR hB ?_
 intro Z g5 W V L m
 have z:∀ b,(∀ i,i<n->b≠rb i)->W b=o b:=fun b p=>by rw [m b p,T b p]
 have D:OwnSl W F9 pA pc (zs l):=ow.keep fun b x hA e=>by rw [z b (fun i hi e=>ap.2 i hi (by rw [<- e];exact hA))];exact e
 have d:(zs l).length=r:=by simp [hl]
 refine L7 (ty:=Fp) C37 L.sep D d.symm (y:=((c:Nat):Int)) rfl (by decide) (by rw [d];omega) (by rw [d];omega) ?_
 intro A6 c6 Q g6 o6 O s6 C f
 obtain ⟨⟨y0,S⟩,H⟩:=L.own
 have t6:=L.keep s6 O (fun k x e hk=>by
  rcases hk with rfl|⟨q,hq,rfl⟩
  ·exact (f _ _ e ap.1).1
  ·exact (f _ _ e (ap.2 q hq)).1)
 rw [d]
 refine fin Q g6 o6 A6 c6 E (B0 N (B0 X (B0 V O))) t6 (by simpa [zs] using C) ⟨(f _ _ S ap.1).2,fun q hq=>?_⟩ (i4.mono (B0 X (B0 V O)))
 obtain ⟨x,hx⟩:=H q hq
 exact (f _ _ hx (ap.2 q hq)).2
def C69(hl:l.length=r)(t:Mt h5 g o bo rb n w R)(ow:OwnSl o F9 pA pc (zs l))(ap:Sf bo rb n pA)(iq:NQ g wd0 q)(hr:r<n)(hk:k<=n)(hcw:c<w)(hn:n<=10000)(hw:w<=10000)(hB1:1<=B)(hq:Sz B q)(hR:∀ a b,a<n->b<w->Sz B (R a b))(hB:B*7<=100000000)
 (fin0:k=n->Invv (.slice pA r pc::I (B7 ((c:Int)+1))::qc ⟨false,none,0,0,false,none,0,0⟩) h5/\muv (.slice pA r pc::I (B7 ((c:Int)+1))::qc ⟨false,none,0,0,false,none,0,0⟩) h5<muv (.slice pA r pc::I (c:Int)::qc wd0) hp2)
 (fin:k<n->∀ h' g' o' rb' A' c' wd',g.le g'->Mt h' g' o' bo rb' n w (elimE (fun i=>R (xch r k i)) r c)->OwnSl o' F9 A' c' (zs (l++[c]))->Sf bo rb' n A'->NQ g' wd' ((if k=r then q else -q)*R k c)->Invv (.slice A' (r+1) c'::I (B7 ((c:Int)+1))::qc wd') h'/\muv (.slice A' (r+1) c'::I (B7 ((c:Int)+1))::qc wd') h'<muv (.slice pA r pc::I (c:Int)::qc wd0) hp2):
 Mi prog (some ⟨bo,0,none⟩) n Invv muv pA r pc (c:Int) wd0.s wd0.A wd0.n wd0.c wd0.s2 wd0.A2 wd0.n2 wd0.c2 (k:Int) hp2 h5:=by
 unfold Mi
 refine E5 (fun e=>fin0 (by omega)) (fun ah=>?_)
 have d:k<n:=by omega
 have u:∀ i,i<n->xch r k i<n:=fun i O=>R6 hr d O
 have xk:xch r k r=k:=Ah _ _
 refine ⟨fun L hq=>∃ (C D:aE) (f:Nat->Nat) (wd:QV),L=qc wd/\g.le C/\Mt hq C D bo f n w (fun i=>R (xch r k i))/\OwnSl D F9 pA pc (zs l)/\Sf bo f n pA/\NQ C wd (if k=r then q else -q),?_,?_⟩
 ·refine I4 (fun af=>?_) (fun ag=>?_)
  ·have p:k≠r:=by omega
   obtain ⟨c1,Z,k1⟩:=t.head hr
   obtain ⟨c2,ac,k2⟩:=t.head d
   refine ⟨_,rfl,by omega,by omega,_,_,_,t.sep.cell k1,_,rfl,by omega,by omega,_,_,_,t.sep.cell k2,_,rfl,by omega,by omega,?_⟩
   refine t.swap hr d Ta k1 k2 Z ac (fun h6 M=>⟨_,rfl,by omega,by omega,M (fun h7 o7 t7 H=>?_)⟩)
   refine t7.sep.call (A3b iq (fun y i3 h8 s8=>⟨_,_,_,_,_,_,_,_,rfl,?_⟩))
   refine ⟨g,o7,_,y,rfl,B5 _,t7.next s8 (B5 _),ow.keep fun b x hA e=>?_,⟨ap.1,fun i O=>ap.2 _ (u i O)⟩,by rw [iN p];exact i3⟩
   rw [H b (fun e=>ap.1 (by rw [<- e];exact hA))];exact e
  ·have m:k=r:=by omega
   refine ⟨g,o,rb,wd0,rfl,B5 _,t.congr (fun i j _ _=>?_),ow,ap,by rw [iP m];exact iq⟩
   rw [m];unfold xch;grind
 rintro e0 E S F e2 V T aa h9 ⟨C,D,f,y,ae,J,t2,X,ab,ad⟩
 obtain ⟨rfl,_⟩:=C3i ae
 have Q:Sz B (if k=r then q else -q):=by
  split
  ·exact hq
  ·exact hq.neg
 refine C68 (wd:=⟨e0,E,S,F,e2,V,T,aa⟩) hl t2 X ab ad hr hcw hn hw hB1 Q (fun a b ha hb=>hR _ b (u a ha) hb) hB ?_
 intro h' g' o' A' c' wd' N t' G W z
 rw [xk] at z
 exact fin d h' g' o' f A' c' wd' (B0 J N) t' G W z
end
section
variable {h:aE} {K:VP} {A:Option aI} {n cap m w:Nat} {M:Nat->Nat->Rat}
def Xl{cols nq:Nat}(rs:RowsV h A n w M)(hn1:1<=n)(hn:n<=10000)(hw1:1<=w)(hw:w<=10000)(hc:cols<=w)(hm1:1<=m)(hs:∀ i j,i<n->j<w->Sz m (M i j))(hnq:∀ c,c<cols->(ecE M n c).cs.length<nq)(hm:7^nq*m<=100000000)
 (hK:∀ h' g' o' bo rb c' A' cap' wd,h.le g'->Mt h' g' o' bo rb n w (ecE M n cols).R->OwnSl o' F9 A' cap' (zs (ecE M n cols).cs)->Sf bo rb n A'->NQ g' wd (B09 M n cols)->
  K (.tuple #[.slice (some ⟨bo,0,none⟩) n c',.slice A' (ecE M n cols).cs.length cap',wd.v]) h'):aV prog Ka #[.slice A n cap,I (cols:Int)] h K:=by
 refine A7c _ _ _ _ ?_
 unfold A96
 refine Qf rs (by omega) hw1 (by omega) hn1 ?_
 intro h1 g1 o1 bo af c0 am t1
 refine ⟨_,_,_,rfl,t1.sep.call (B2a ⟨by omega,by omega⟩ ?_)⟩
 intro wd g2 l2 id h2 s2
 have one:((1:Int):Rat)=1:=rfl
 rw [one] at id
 refine ⟨_,_,_,_,_,_,_,_,rfl,fun L E=>∃ (c:Nat) (g o:aE) (rb:Nat->Nat) (A':Option aI) (cap':Nat) (wd:QV),c<=cols/\L= .slice A' (ecE M n c).cs.length cap'::I (c:Int)::qc wd/\h.le g/\Mt E g o bo rb n w (ecE M n c).R/\OwnSl o F9 A' cap' (zs (ecE M n c).cs)/\Sf bo rb n A'/\NQ g wd (ecE M n c).det,fun L _=>cols-(iAt L 1).toNat,
  ⟨0,g2,o1,af,none,0,wd,by omega,rfl,B0 am l2,t1.next s2 l2,(OwnSl.nil:OwnSl o1 F9 none 0 ([]:List Int)),⟨by simp,fun i hi=>by simp⟩,id⟩,?_⟩
 rintro V pn T z d0 D r y d2 q C u E ⟨c,g,o,rb,A',cap',f,ay,F,lg,t,X,ap,iq⟩
 simp only [aX,bU,aT,true_and] at F
 obtain ⟨⟨rfl,rfl,rfl⟩,rfl,F⟩:=F
 obtain ⟨rfl,_⟩:=C3i (by simpa only [aX,bM,aT,and_true] using F:(.bool d0:bD) :: .slice D r y :: .bool d2 :: .slice q C u::[]= .bool f.s :: .slice f.A f.n f.c :: .bool f.s2 :: .slice f.A2 f.n2 f.c2::[])
 have ar:=A1m M n c
 have Q:∀ (he:ecE M n cols=ecE M n c),Br (decide ((((ecE M n c).cs.length:Nat):Int)<(cols:Int))) (K (.tuple #[.slice (some ⟨bo,0,none⟩) n c0,.slice V (ecE M n c).cs.length T,.agg #[.bool false,.slice none 0 0,.bool false,.slice none 0 0]]) E)
  (K (.tuple #[.slice (some ⟨bo,0,none⟩) n c0,.slice V (ecE M n c).cs.length T,.agg #[.bool d0,.slice D r y,.bool d2,.slice q C u]]) E):=by
  intro he
  rw [<- he] at t X iq ⊢
  refine B8 (fun O=>?_) (fun S=>?_)
  ·have e:B09 M n cols=0:=by unfold B09;rw [iP (by omega)]
   exact hK E g o bo rb c0 V T ⟨false,none,0,0,false,none,0,0⟩ lg t X ap (by rw [e];exact NQ.zero)
  ·have e:B09 M n cols=(ecE M n cols).det:=by unfold B09;rw [iN (by omega)]
   exact hK E g o bo rb c0 V T ⟨d0,D,r,y,d2,q,C,u⟩ lg t X ap (by rw [e];exact iq)
 refine B8 (fun O=>?_) (fun S=>Q (by have:c=cols:=by omega
                                     rw [this]))
 have ac:c<cols:=by omega
 have W:c<w:=by omega
 refine B8 (fun H=>?_) (fun H=>Q (by
  have:=B26 (n:=n) (s:=⟨M,[],1⟩) (c:=c) (by show n<=(ecE M n c).cs.length;omega) (cols-c)
  rw [show c+(cols-c)=cols by omega] at this
  exact this))
 have J:(ecE M n c).cs.length<n:=by omega
 have ae:=(SzE.run (n:=n) (w:=w) (m:=m) (s:=⟨M,[],1⟩) ⟨fun a b ha hb=>by show Sz (7^0*m) (M a b);rw [cZ,aQ];exact hs a b ha hb,by show Sz (7^0*m) 1;rw [cZ,aQ];exact Sz.int (z:=1) (ZB.one hm1) hm1,bY _⟩ hm1 c (by omega))
 have l:SzE n w m (ecE M n c):=ae
 have d:ecE M n (c+1)=Hu n c (ecE M n c):=rfl
 have av:7^(ecE M n c).cs.length*m*7<=7^nq*m:=by
  have h1:7^(ecE M n c).cs.length*7<=7^nq:=by rw [<- dB];exact cG (by decide) (hnq c ac)
  calc 7^(ecE M n c).cs.length*m*7=7^(ecE M n c).cs.length*7*m:=by rw [cI,bJ m 7,<- cI]
   _<=7^nq*m:=aF _ h1
 have ak:=A7u (ecE M n c).cs.length m hm1
 obtain ⟨r1,r2,r3,r4⟩:=A9m n c (ecE M n c) l.len
 have ab:B7 ((c:Int)+1)=((c+1:Nat):Int):=by rw [C0]<;>omega
 generalize hst:ecE M n c=st at *
 generalize hB:7^st.cs.length*m=B at *
 refine ⟨fun L N=>L=[I ((Fv n c st:Nat):Int)]/\N=E,⟨fun L N=>∃ k:Nat,st.cs.length<=k/\k<=Fv n c st/\L=[I (k:Int)]/\N=E,fun L _=>n-(iAt L 0).toNat,⟨st.cs.length,aG _,r1,rfl,rfl⟩,?_⟩,?_⟩
 ·rintro z N ⟨k,aj,aw,F,rfl⟩
  obtain rfl:=sI1 F
  refine B8 (fun O=>?_) (fun S=>⟨by have:k=Fv n c st:=by omega
                                    rw [this],rfl⟩)
  have Z:k<n:=by omega
  obtain ⟨ch,ax,G⟩:=t.head Z
  obtain ⟨x,ix,x0,x1,x2,x3⟩:=t.elem Z W
  refine ⟨_,rfl,by omega,by omega,_,_,_,t.sep.cell G,_,rfl,by omega,by omega,_,_,_,_,_,_,_,_,t.sep.cell x0,t.sep.cell x1,t.sep.cell x2,t.sep.cell x3,?_⟩
  refine Q7 (ix.mono t.sep.le) ⟨_,rfl,E5 (fun e=>?_) (fun e=>?_)⟩
  ·have e0:st.R k c=0:=by rw [cT] at e;exact Rat.num_eq_zero.1 e
   have au:k<Fv n c st:=by
    by_cases hx:k<Fv n c st
    ·exact hx
    ·exfalso
     have ag:k=Fv n c st:=by omega
     exact r3 (by omega) (by rw [<- ag];exact e0)
   rw [wiS k (by omega)]
   exact ⟨⟨k+1,by omega,by omega,rfl,rfl⟩,by simp only [U9];omega⟩
  ·have e0:st.R k c≠0:=fun h=>e (by rw [h];rfl)
   have:k=Fv n c st:=by
    by_cases hx:k<Fv n c st
    ·exact absurd (r4 k aj hx) e0
    ·omega
   exact ⟨by rw [this],rfl⟩
 rintro k1 N ⟨F,rfl⟩
 obtain rfl:k1=((Fv n c st:Nat):Int):=by simpa using F
 refine C69 (B:=B) (wd0:=⟨d0,D,r,y,d2,q,C,u⟩) rfl t X ap iq J r2 W hn hw ak (by rw [<- hB];exact l.det) (fun a b ha hb=>by rw [<- hB];exact l.R a b ha hb) (by omega) (fun az=>?_) (fun ai=>?_)
 ·have p:Hu n c st={ st with det:=0 }:=by unfold Hu;rw [iP J,iN (by omega)]
  rw [ab]
  refine ⟨⟨c+1,g,o,rb,V,T,⟨false,none,0,0,false,none,0,0⟩,by omega,?_,lg,?_⟩,?_⟩
  ·rw [d,p]
  ·rw [d,p];exact ⟨t,X,ap,NQ.zero⟩
  ·show cols-((c+1:Nat):Int).toNat<cols-((c:Nat):Int).toNat
   omega
 ·intro h' g' o' ad A6 c6 ao aq t' ah al an
  have p:Hu n c st={ R:=elimE (fun i=>st.R (xch st.cs.length (Fv n c st) i)) st.cs.length c,cs:=st.cs++[c],det:=(if Fv n c st=st.cs.length then st.det else-st.det)*st.R (Fv n c st) c }:=by unfold Hu;rw [iP J,iP ai]
  have aa:(st.cs++[c]).length=st.cs.length+1:=by simp
  rw [ab]
  refine ⟨⟨c+1,g',o',ad,A6,c6,ao,by omega,?_,B0 lg aq,?_⟩,?_⟩
  ·rw [d,p,aa]
  ·rw [d,p];exact ⟨t',ah,al,an⟩
  ·show cols-((c+1:Nat):Int).toNat<cols-((c:Nat):Int).toNat
   omega
def A0z{cols:Nat}(rs:RowsV h A n w M)(hn1:1<=n)(hn:n<=10000)(hw1:1<=w)(hw:w<=10000)(hc:cols<=w)(hm1:1<=m)(hs:∀ i j,i<n->j<w->Sz m (M i j))(hm:7^cols*m<=100000000)
 (hK:∀ h' g' o' bo rb c' A' cap' wd,h.le g'->Mt h' g' o' bo rb n w (ecE M n cols).R->OwnSl o' F9 A' cap' (zs (ecE M n cols).cs)->Sf bo rb n A'->NQ g' wd (B09 M n cols)->
  K (.tuple #[.slice (some ⟨bo,0,none⟩) n c',.slice A' (ecE M n cols).cs.length cap',wd.v]) h'):aV prog Ka #[.slice A n cap,I (cols:Int)] h K:=Xl rs hn1 hn hw1 hw hc hm1 hs (fun c a=>Nat.lt_of_le_of_lt (A1m M n c).1 a) hm hK
end
section
variable {h:aE} {K:VP} {A B:Option aI} {n m a b:Nat} {r c r2 c2:Int} {ls ls2:Nat->List UInt8}
def Ut{k:Int}(r:bV SSr h A n ls)(hn:n<=1000000000)(hK1:(∀ i,i<n->((ls i).length:Int)<=k)->K (.bool true) h)(hK0:¬ (∀ i,i<n->((ls i).length:Int)<=k)->K (.bool false) h):aV prog Tk #[I k,.slice A n a] h K:=by
 refine B5s _ _ _ _ ?_
 unfold C0e
 refine ⟨fun L c=>∃ i:Nat,i<=n/\L=[I (i:Int)]/\c=h/\∀ j,j<i->((ls j).length:Int)<=k,fun L _=>n-(iAt L 0).toNat,⟨0,by omega,rfl,rfl,fun j p=>by omega⟩,?_⟩
 rintro z c ⟨i,s,l,rfl,d⟩
 obtain rfl:=sI1 l
 refine B8 (fun f=>?_) (fun q=>?_)
 ·have b:i<n:=by omega
  obtain ⟨x,rfl,o⟩:=r.sat b
  refine ⟨x,rfl,by omega,by omega,_,o,?_⟩
  rw [L6]
  refine B8 (fun e=>hK0 fun g=>by have:=g i b;omega) (fun e=>?_)
  rw [wiS i (by omega)]
  refine ⟨⟨i+1,by omega,rfl,rfl,fun j p=>?_⟩,by simp only [U9];omega⟩
  by_cases m:j=i
  ·subst m;omega
  ·exact d j (by omega)
 ·have:i=n:=by omega
  subst this
  exact hK1 d
def Cb(x:bV SSr h A n ls)(y:bV SSr h B m ls2)(hn:n<=1000000000)(hK1:n=m->(∀ i,i<n->ls i=ls2 i)->K (.bool true) h)(hK0:¬ (n=m/\∀ i,i<n->ls i=ls2 i)->K (.bool false) h):aV prog Co #[.slice A n a,.slice B m b] h K:=by
 refine A79 _ _ _ _ _ _ ?_
 unfold A92
 refine I4 (fun e=>hK0 fun d=>e (by omega)) (fun e=>?_)
 have e:n=m:=by omega
 subst e
 refine ⟨fun L f=>∃ i:Nat,i<=n/\L=[I (i:Int)]/\f=h/\∀ j,j<i->ls j=ls2 j,fun L _=>n-(iAt L 0).toNat,⟨0,by omega,rfl,rfl,fun j r=>by omega⟩,?_⟩
 rintro z f ⟨i,t,l,rfl,g⟩
 obtain rfl:=sI1 l
 refine B8 (fun k=>?_) (fun s=>?_)
 ·have c:i<n:=by omega
  obtain ⟨u,rfl,p⟩:=x.sat c
  obtain ⟨v,rfl,q⟩:=y.sat c
  refine ⟨u,rfl,by omega,by omega,_,p,v,rfl,by omega,by omega,_,q,?_⟩
  rw [Ow]
  refine Br.not (B8 (fun e=>?_) (fun e=>hK0 fun d=>e (d.2 i c)))
  rw [wiS i (by omega)]
  refine ⟨⟨i+1,by omega,rfl,rfl,fun j r=>?_⟩,by simp only [U9];omega⟩
  by_cases o:j=i
  ·subst o;exact e
  ·exact g j (by omega)
 ·have:i=n:=by omega
  subst this
  exact hK1 rfl g
def Km(x:bV SSr h A n ls)(y:bV SSr h B m ls2)(hn:n<=1000000000)(hK1:r=r2->c=c2->n=m->(∀ i,i<n->ls i=ls2 i)->K (.bool true) h)(hK0:¬ (r=r2/\c=c2/\n=m/\∀ i,i<n->ls i=ls2 i)->K (.bool false) h):aV prog Gm #[Hb r c A n a,Hb r2 c2 B m b] h K:=by
 refine A52 _ _ _ _ _ _ _ _ _ _ ?_
 unfold A53
 refine E5 (fun j=>E5 (fun g=>?_) (fun e=>hK0 fun d=>e d.2.1)) (fun e=>hK0 fun d=>e d.1)
 exact Cb x y hn (fun k l=>⟨_,rfl,hK1 j g k l⟩) (fun d=>⟨_,rfl,hK0 fun f=>d f.2.2⟩)
structure Small (r c:Int) (n:Nat) (ls:Nat->List UInt8) (k d:Int):Prop where
 hr:r<=k
 hc:c<=k
 hn:(n:Int)<=k*k+2
 hl:∀ i,i<n->((ls i).length:Int)<=d
end
def B7m(ls:List (List UInt8)):(ls.flatMap fun l=>[cK (bs l)])=ls.map fun l=>cK (bs l):=by
 induction ls with
 | nil=>rfl
 | cons x l ih=>rw [List.flatMap_cons,ih];rfl
def Hz{h:aE}{A:Option aI}{ls:List (List UInt8)}(s:SlV h A (ls.map fun l=>cK (bs l))):bV SSr h A ls.length (fun i=>ls.getD i []):=by
 refine ⟨ls,?_,rfl,fun i a=>⟨ls[i],aH a,?_⟩⟩
 ·show SlV h A (ls.flatMap fun l=>[cK (bs l)])
  rw [B7m];exact s
 ·show ls[i]=ls.getD i []
  simp [a]
def A0d(l:List Rat):rvs (fun i=>(l.map K9).getD i [])=fun i=>l.getD i 0:=by
 funext i
 show rv ((l.map K9).getD i [])=_
 by_cases b:i<l.length
 ·rw [aK,aK,List.getElem?_map,aH b]
  exact Hx _
 ·rw [aK,aK,List.getElem?_map,List.getElem?_eq_none (by omega)]
  exact B25 (by rintro ⟨q,a⟩;exact absurd a.symm (by
   have:=B1o q
   obtain ⟨c,r,e,_⟩:=this
   rw [e];simp))
def C35:K9 1=[49]:=by
 have:O9 1=[49]:=by decide +kernel
 simp [K9,Mz,this]
def C6i:K9 2=[50]:=by
 have:O9 2=[50]:=by decide +kernel
 have a:(2:Rat).den=1:=by decide +kernel
 have b:(2:Rat).num=2:=by decide +kernel
 simp [K9,Mz,this,a,b]
def C5j:K9 4=[52]:=by
 have:O9 4=[52]:=by decide +kernel
 have a:(4:Rat).den=1:=by decide +kernel
 have b:(4:Rat).num=4:=by decide +kernel
 simp [K9,Mz,this,a,b]
section
variable {h:aE} {K:VP} {A B:Option aI} {n cap m:Nat} {r c:Int} {ls:Nat->List UInt8}
def B2x{E:Nat->Rat}{rows cols:Nat}(hs:∀ i,i<rows*cols->Sz m (E i)):∀ i j,i<rows->j<cols->Sz m (mtx E cols i j):=fun _ _ a b=>hs _ (O2 a b)
end
section
variable {h:aE} {K:VP} {A:Option aI} {n cap m w:Nat} {r c:Int} {ls:Nat->List UInt8} {M:Nat->Nat->Rat}
end
section
variable {α β:Type} {R:aE->α->β->Prop} {g:aE}
def Row.app{xs ys:List α}{f:Nat->β}{p q:Nat}(hp:xs.length=p)(r:Row R g xs p f)(r2:Row R g ys q (fun j=>f (p+j))):Row R g (xs++ys) (p+q) f:=fun i b=>by
 by_cases h:i<p
 ·obtain ⟨w,e,x⟩:=r i h
  exact ⟨w,by rw [aM (by omega)];exact e,x⟩
 ·obtain ⟨w,e,x⟩:=r2 (i-p) (by omega)
  refine ⟨w,by rw [aR (by omega),hp];exact e,?_⟩
  have a:p+(i-p)=i:=by omega
  show R g w (f i)
  rw [<- a];exact x
end
section
variable {h:aE} {K:VP} {A:Option aI} {n cap m:Nat} {r c:Int} {ls:Nat->List UInt8}
def Tv{z:Int}(hz: -9223372036854775808<=z/\z<=9223372036854775807)(hK:∀ w h',h.le h'->RQ h' w (z:Rat)->K w.v h'):aV prog Tf #[I z] h K:=by
 refine B51 _ ?_
 unfold C02
 exact Cv hz.1 hz.2 fun a A1 b c1 h' l i=>⟨_,_,_,_,rfl,hK _ h' l (A7r i)⟩
end
end Go.Proofs.YtmbfcbbkbefgfaaGreatDoor
namespace Go.Proofs.YtmbfcbbkbefgfaaGreatDoor
set_option maxRecDepth 20000
def ldA(A:Nat->Nat->Rat):Nat->Nat->Nat->Rat
 | 0=>A
 | k+1=>fun i j=>if ldA A k k k=0 then ldA A k i j else ldA A k i j-ldA A k i k*(ldA A k k j/ldA A k k k)
def Pn(A:Nat->Nat->Rat)(n k:Nat):Prop:=0<=ldA A k k k/\(ldA A k k k=0->∀ i,k<i->i<n->ldA A k i k=0)
def ldL(A:Nat->Nat->Rat)(i k:Nat):Rat:=if i=k then 1 else if i<k then 0 else if ldA A k k k=0 then 0 else ldA A k i k/ldA A k k k
def ldD(A:Nat->Nat->Rat)(k:Nat):Rat:=ldA A k k k
def A5d(n:Nat)(A:Nat->Nat->Rat):Prop:=∀ i j,i<n->j<n->A i j=A j i
def B7g{A:Nat->Nat->Rat}{n:Nat}(hs:A5d n A):∀ k,k<=n->A5d n (ldA A k):=by
 intro k
 induction k with
 | zero=>exact fun _=>hs
 | succ k ih=>
  intro c i j a b
  have h:=ih (by omega)
  show (if ldA A k k k=0 then ldA A k i j else _)=(if ldA A k k k=0 then ldA A k j i else _)
  split
  ·exact h i j a b
  ·rw [h i j a b,h i k a (by omega),h k j (by omega) b]
   grind
def A83{A:Nat->Nat->Rat}{n:Nat}(hs:A5d n A):∀ k,k<=n->(∀ m,m<k->Pn A n m)->∀ i j,i<n->j<n->i<k\/j<k->ldA A k i j=0:=by
 intro k
 induction k with
 | zero=>intro _ _ i j _ _ h;omega
 | succ k ih=>
  intro s g i j f l h
  have a:=ih (by omega) fun m t=>g m (by omega)
  have d:=B7g hs k (by omega)
  obtain ⟨_,r⟩:=g k (by omega)
  have row:ldA A k k k=0->∀ b,b<n->ldA A k k b=0:=fun e b o=>by
   rcases Nat.lt_trichotomy b k with c|c|c
   ·exact a k b (by omega) o (.inr c)
   ·rw [c];exact e
   ·rw [d k b (by omega) o];exact r e b c o
  show (if ldA A k k k=0 then ldA A k i j else _)=0
  by_cases e:ldA A k k k=0
  ·rw [iP e]
   by_cases c:i<k\/j<k
   ·exact a i j f l c
   ·by_cases q:i=k
    ·rw [q];exact row e j l
    ·have p:j=k:=by omega
     rw [d i j f l,p];exact row e i f
  ·rw [iN e]
   by_cases q:i=k
   ·rw [q];grind
   ·by_cases p:j=k
    ·rw [p];grind
    ·rw [a i j f l (by omega)]
     by_cases c:i<k
     ·rw [a i k f (by omega) (.inl c)];grind
     ·rw [a k j (by omega) l (.inr (by omega))];grind
structure LdR (n k:Nat) (A:Nat->Nat->Rat) (s:ES):Prop where
 len:s.cs.length<=k
 low:∀ i j,k<=i->i<n->j<n->s.R i j=ldA A k i j
 zero:∀ i j,s.cs.length<=i->i<k->j<n->s.R i j=0
def LdR.row{n k:Nat}{A:Nat->Nat->Rat}{s:ES}(h:LdR n k A s)(hk:k<n)(hne:ldA A k k k≠0):Fv n k s=k:=by
 have c:=h.len
 unfold Fv
 refine A86 _ c (by omega) (fun j a b=>?_) fun _=>?_
 ·rw [h.zero j k a b hk];decide
 ·rw [h.low k k (aG _) hk hk];exact decide_eq_true hne
def LdR.none{n k:Nat}{A:Nat->Nat->Rat}{s:ES}(h:LdR n k A s)(hk:k<n)(he:ldA A k k k=0)(hok:Pn A n k):Fv n k s=n:=by
 have d:=h.len
 unfold Fv
 refine A86 _ (by omega) (by omega) (fun j a b=>?_) fun c=>by omega
 by_cases c:j<k
 ·rw [h.zero j k a c hk];decide
 ·rw [h.low j k (by omega) b hk]
  by_cases e:j=k
  ·rw [e,he];decide
  ·rw [hok.2 he j (by omega) b];decide
def LdR.step{n k:Nat}{A:Nat->Nat->Rat}{s:ES}(hs:A5d n A)(hk:k<n)(hok:∀ m,m<=k->Pn A n m)(h:LdR n k A s):LdR n (k+1) A (Hu n k s):=by
 have y:=h.len
 have z:=A83 hs k (by omega) fun m r=>hok m (by omega)
 have u:=A83 hs (k+1) (by omega) fun m r=>hok m (by omega)
 unfold Hu
 rw [iP (show s.cs.length<n by omega)]
 by_cases e:ldA A k k k=0
 ·rw [h.none hk e (hok k (aG _)),iN (aU n)]
  refine ⟨by show s.cs.length<=k+1;omega,fun i j f d a=>?_,fun i j f g a=>?_⟩
  ·show s.R i j=(if ldA A k k k=0 then ldA A k i j else _)
   rw [iP e];exact h.low i j (by omega) d a
  ·show s.R i j=0
   by_cases c:i=k
   ·rw [c,h.low k j (aG _) hk a]
    have:=u k j hk a (.inl (by omega))
    rw [show ldA A (k+1) k j=(if ldA A k k k=0 then ldA A k k j else ldA A k k j-ldA A k k k*(ldA A k k j/ldA A k k k)) from rfl,iP e] at this
    exact this
   ·exact h.zero i j f (by omega) a
 ·rw [h.row hk e,iP hk]
  have w:(s.cs++[k]).length=s.cs.length+1:=by simp
  have t:=Ah s.cs.length k
  refine ⟨by show (s.cs++[k]).length<=k+1;omega,fun i j f d a=>?_,fun i j f g a=>?_⟩
  ·show elimE (fun i=>s.R (xch s.cs.length k i)) s.cs.length k i j=(if ldA A k k k=0 then ldA A k i j else _)
   have p:xch s.cs.length k i=i:=by unfold xch;rw [iN (by omega),iN (by omega)]
   unfold elimE
   rw [iN e,iN (by omega)]
   simp only [t,p]
   rw [h.low i k (by omega) d hk,h.low i j (by omega) d a,h.low k j (aG _) hk a,h.low k k (aG _) hk hk]
   split
   ·rename_i c
    rcases c with c|c
    ·rw [c];grind
    ·rw [z k j hk a (.inr c)];grind
   ·rfl
  ·show elimE (fun i=>s.R (xch s.cs.length k i)) s.cs.length k i j=0
   have q:(s.cs++[k]).length<=i:=f
   have o:∀ b,b<n->s.R (xch s.cs.length k i) b=0:=fun b l=>by
    unfold xch
    rw [iN (by omega)]
    split
    ·exact h.zero _ b (aG _) (by omega) l
    ·exact h.zero i b (by omega) (by omega) l
   unfold elimE
   rw [iN (by omega),iP (.inl (o k hk))]
   exact o j a
def LdR.run{n:Nat}{A:Nat->Nat->Rat}(hs:A5d n A):∀ k,k<=n->(∀ m,m<k->Pn A n m)->LdR n k A (B1b n ⟨A,[],1⟩ k):=by
 intro k
 induction k with
 | zero=>exact fun _ _=>⟨aG _,fun _ _ _ _ _=>rfl,fun i j _ h _=>by omega⟩
 | succ k ih=>exact fun c a=>LdR.step hs (by omega) (fun m b=>a m (by omega)) (ih (by omega) fun m b=>a m (by omega))
def qf(n:Nat)(A:Nat->Nat->Rat)(x:Nat->Rat):Rat:=sm n fun i=>x i*sm n fun j=>A i j*x j
def B38{A:Nat->Nat->Rat}{i k:Nat}(h:i<k):ldL A i k=0:=by unfold ldL;rw [iN (by omega),iP h]
def B37(A:Nat->Nat->Rat)(k:Nat):ldL A k k=1:=by unfold ldL;rw [iP rfl]
def B79{n:Nat}{A B:Nat->Nat->Rat}{x y:Nat->Rat}(h:∀ i j,i<n->j<n->A i j=B i j)(hx:∀ i,i<n->x i=y i):qf n A x=qf n B y:=
 D0 fun i a=>by rw [hx i a,D0 fun j b=>by rw [h i j a b,hx j b]]
