/- A part. -/
import Derived.Test.YtmbfcbbkbefgfaaGreatDoorG27
import Derived.Test.YtmbfcbbkbefgfaaGreatDoorG28
open Go.Proofs.Tryz
set_option linter.all false
open _root_.Go.Addr renaming add->aF
open _root_.Go.Addr.mk renaming injEq->bH
open _root_.Go.Builtin renaming append_->bU
open Classical renaming byContradiction->bG
open _root_.Go.Instr renaming storeAt->aX,buildSlice->cM
open Int renaming toNat_natCast->aH,natCast_mul->bF,natAbs_natCast->dH,gcd->dP,sign_eq_zero_iff_zero->dS,mul_tdiv_cancel_left->dV,tdiv_eq_ediv_of_dvd->dX
open List renaming length_append->aC,getElem?_eq_getElem->aI,getD_eq_getElem?_getD->aJ,length_replicate->aK,replicate->aP,getElem?_append_left->aU,getElem?_append_right->bB,length_set->bO,getElem?_set_ne->bX,eq_nil_of_length_eq_zero->bY,getElem?_set_self->bZ,length_cons->cL,getElem?_replicate->cP,toArray->cT,getElem_mem->cZ,append_assoc->dJ,take_append_of_le_length->dK,length_nil->dN,length_map->dO
open List.cons renaming injEq->bD
open Nat renaming mul_le_mul_right->aD,le_refl->aE,add_mul->aM,zero_add->aN,mul_comm->aO,one_mul->aQ,lt_irrefl->aS,mul_le_mul->bI,zero_le->bL,div_eq_of_lt->bM,add_mul_mod_self_right->bN,zero_mul->bW,add_mul_div_right->cD,div_lt_of_lt_mul->cI,mod_eq_of_lt->cK,add_sub_cancel_left->cO,add_comm->cR,pow_le_pow_right->cU,le_succ_of_le->cX,add_zero->dB,pow_pos->dC,mul_assoc->dD,lt_of_le_of_lt->dG,le_trans->dI,mul_add_div->dM,mod_lt->dR,add_assoc->dU,pow_zero->dY,pow_succ->dZ,le_mul_of_pos_left->eA,lcm->eB
open Option.some renaming injEq->aR,inj->dL
open Rat renaming mul_zero->aT,div_def->aV,mul_comm->aW,zero_mul->aZ,intCast_mul->bJ,add_zero->bV,divInt->cH,divInt_eq_div->cQ,one_mul->cW,zero_add->dA,sub_eq_add_neg->dE,div_mul_cancel->dF,mul_nonneg->dQ,mul_assoc->dT
open _root_.Go.Value renaming cells->cN
open _root_.Go.Value.bool renaming injEq->cJ
open _root_.Go.Value.int renaming injEq->cC
open _root_.Go.Value.slice renaming injEq->aY
open _root_.Go renaming Addr->aL,TypeId->cF,Value->cG,Program->cY
open _root_.Go.Proofs.YtmbfcbbkbefgfaaGreatDoor renaming Heap->aG,FCall->bC,RowV->bK,IsNum->cV
namespace Go.Proofs.YtmbfcbbkbefgfaaGreatDoor
set_option maxRecDepth 20000
def sm:Nat->(Nat->Rat)->Rat
 | 0,_=>0
 | n+1,f=>sm n f+f n
def C8{n:Nat}{f g:Nat->Rat}(h:∀ i,i<n->f i=g i):sm n f=sm n g:=by
 induction n with
 | zero=>rfl
 | succ n ih=>rw [sm,sm,ih (fun i a=>h i (by omega)),h n (by omega)]
def T4{n:Nat}{f:Nat->Rat}(h:∀ i,i<n->f i=0):sm n f=0:=by
 induction n with
 | zero=>rfl
 | succ n ih=>rw [sm,ih (fun i a=>h i (by omega)),h n (by omega)];exact bV 0
def Ii(n:Nat)(f g:Nat->Rat):sm n (fun i=>f i+g i)=sm n f+sm n g:=by
 induction n with
 | zero=>simp only [sm];exact (bV 0).symm
 | succ n ih=>simp only [sm];rw [ih];grind
def Hh(n:Nat)(a:Rat)(f:Nat->Rat):sm n (fun i=>a*f i)=a*sm n f:=by
 induction n with
 | zero=>simp only [sm];grind
 | succ n ih=>simp only [sm];rw [ih];grind
def Ue(n:Nat)(f:Nat->Rat):sm n (fun i=> - f i)= - sm n f:=by
 induction n with
 | zero=>simp only [sm];grind
 | succ n ih=>simp only [sm];rw [ih];grind
def A66(n m:Nat)(f:Nat->Nat->Rat):sm n (fun i=>sm m (f i))=sm m (fun j=>sm n (fun i=>f i j)):=by
 induction n with
 | zero=>rw [sm];exact (T4 fun _ _=>rfl).symm
 | succ n ih=>simp only [sm];rw [ih,<- Ii]
def Ud{n k:Nat}(hk:k<n){f:Nat->Rat}(h:∀ i,i<n->i≠k->f i=0):sm n f=f k:=by
 induction n with
 | zero=>omega
 | succ n ih=>
  rw [sm]
  by_cases e:k=n
  ·subst e;rw [T4 fun i b=>h i (by omega) (by omega)];exact dA _
  ·rw [ih (by omega) fun i b a=>h i (by omega) a,h n (by omega) (by omega)];exact bV _
def rhx(l i:Nat):Nat:=if i<l then i else i+1
def B2x(l i:Nat):rhx l i≠l:=by unfold rhx;split<;>omega
def A3j{l i k:Nat}(hi:i<k):rhx l i<k+1:=by unfold rhx;split<;>omega
def B9p{k a:Nat}(ha:a<=k)(t:Nat->Rat):sm k (fun i=>t (rhx a i))=sm (k+1) (fun b=>if b=a then 0 else t b):=by
 induction k generalizing a with
 | zero=>
  show (0:Rat)=0+(if 0=a then 0 else t 0)
  rw [iP (by omega)];exact (bV 0).symm
 | succ k ih=>
  show sm k (fun i=>t (rhx a i))+t (rhx a k)=sm (k+1) (fun b=>if b=a then 0 else t b)+(if k+1=a then 0 else t (k+1))
  by_cases e:a=k+1
  ·rw [iP e.symm,bV]
   show sm k (fun i=>t (rhx a i))+t (rhx a k)=sm k (fun b=>if b=a then 0 else t b)+(if k=a then 0 else t k)
   rw [iN (by omega)]
   congr 1
   ·exact C8 fun i c=>by rw [rhx,iP (by omega),iN (by omega)]
   ·rw [rhx,iP (by omega)]
  ·rw [ih (by omega),iN (fun x=>e x.symm)]
   congr 1
   rw [rhx,iN (by omega)]
def sg(n:Nat):Rat:=if n%2=0 then 1 else -1
def dt:Nat->(Nat->Nat->Rat)->Rat
 | 0,_=>1
 | k+1,X=>sm (k+1) fun l=>sg (k+l)*X k l*dt k (fun c r=>X c (rhx l r))
def W7{k:Nat}: ∀ {X Y:Nat->Nat->Rat},(∀ c r,c<k->r<k->X c r=Y c r)->dt k X=dt k Y:=by
 induction k with
 | zero=>intros;rfl
 | succ k ih=>
  intro X Y h
  rw [dt,dt]
  refine C8 fun l b=>?_
  rw [h k l (by omega) b,ih fun c r d a=>h c (rhx l r) (by omega) (A3j a)]
def rc(X:Nat->Nat->Rat)(m:Nat)(y:Nat->Rat):Nat->Nat->Rat:=fun c r=>if c=m then y r else X c r
def Gg(X:Nat->Nat->Rat)(m:Nat)(y:Nat->Rat)(l:Nat):(fun c r=>rc X m y c (rhx l r))=rc (fun c r=>X c (rhx l r)) m (fun r=>y (rhx l r)):=by
 funext c r;unfold rc;split<;>rfl
def A4h{k:Nat}: ∀ (X:Nat->Nat->Rat) {m:Nat} (_:m<k) (y z:Nat->Rat),dt k (rc X m fun r=>y r+z r)=dt k (rc X m y)+dt k (rc X m z):=by
 induction k with
 | zero=>intros;omega
 | succ k ih=>
  intro X m d y z
  rw [dt,dt,dt,<- Ii]
  refine C8 fun l b=>?_
  by_cases e:m=k
  ·subst e
   have:∀ u:Nat->Rat,dt m (fun c r=>rc X m u c (rhx l r))=dt m (fun c r=>X c (rhx l r)):=fun u=>W7 fun c r a _=>by rw [rc,iN (by omega)]
   rw [this,this,this]
   simp only [rc,if_true]
   grind
  ·rw [Gg,Gg,Gg,ih _ (by omega)]
   simp only [rc,iN (fun x:k=m=>e x.symm)]
   grind
def B4o{k:Nat}: ∀ (X:Nat->Nat->Rat) {m:Nat} (_:m<k) (a:Rat) (y:Nat->Rat),dt k (rc X m fun r=>a*y r)=a*dt k (rc X m y):=by
 induction k with
 | zero=>intros;omega
 | succ k ih=>
  intro X m f a y
  rw [dt,dt,<- Hh]
  refine C8 fun l d=>?_
  by_cases e:m=k
  ·subst e
   have:∀ u:Nat->Rat,dt m (fun c r=>rc X m u c (rhx l r))=dt m (fun c r=>X c (rhx l r)):=fun u=>W7 fun c r b _=>by rw [rc,iN (by omega)]
   rw [this,this]
   simp only [rc,if_true]
   grind
  ·rw [Gg,Gg,ih _ (by omega)]
   simp only [rc,iN (fun x:k=m=>e x.symm)]
   grind
def C2a{k:Nat}(X:Nat->Nat->Rat){m:Nat}(hm:m<k):dt k (rc X m fun _=>0)=0:=by
 have:=B4o X hm 0 (fun _=>0)
 rw [aZ] at this
 simpa only [aZ] using this
def C05{k:Nat}(X:Nat->Nat->Rat){m:Nat}(hm:m<k)(a:Nat->Rat)(Y:Nat->Nat->Rat):∀ n,dt k (rc X m fun r=>sm n fun t=>a t*Y t r)=sm n fun t=>a t*dt k (rc X m (Y t)):=by
 intro n
 induction n with
 | zero=>exact C2a X hm
 | succ n ih=>
  simp only [sm]
  rw [A4h X hm,ih,B4o X hm]
def A6g(X:Nat->Nat->Rat)(m:Nat):rc X m (X m)=X:=by
 funext c r;unfold rc;split
 ·rename_i e;rw [e]
 ·rfl
def A97{k:Nat}(X:Nat->Nat->Rat)(h:∀ r,r<k+2->X k r=X (k+1) r):dt (k+2) X=0:=by
 let mn:Nat->Nat->Rat:=fun a b=>dt k (fun c r=>X c (if a<b then rhx a (rhx (b-1) r) else rhx b (rhx (a-1) r)))
 let G:Nat->Nat->Rat:=fun a b=>if a=b then 0 else if b<a then sg (a+b)*X (k+1) a*X (k+1) b*mn a b else-(sg (a+b)*X (k+1) a*X (k+1) b*mn a b)
 have m:∀ a b,mn a b=mn b a:=by
  intro a b
  show dt k _=dt k _
  refine W7 fun c r _ _=>?_
  by_cases d:a<b
  ·rw [iP d,iN (by omega)]
  ·by_cases n:b<a
   ·rw [iN d,iP n]
   ·have:a=b:=by omega
    subst this;rfl
 have s:∀ a b,G b a= - G a b:=by
  intro a b
  show (if b=a then 0 else if a<b then _ else _)= - (if a=b then 0 else if b<a then _ else _)
  by_cases e:a=b
  ·rw [iP e,iP e.symm];grind
  ·rw [iN e,iN (fun x=>e x.symm)]
   have u:=m a b
   by_cases d:a<b
   ·rw [iP d,iN (by omega),cR b a];grind
   ·rw [iN d,iP (by omega),cR b a];grind
 have f:dt (k+2) X=sm (k+2) fun a=>sm (k+2) fun b=>G a b*sg (k+1+k):=by
  rw [dt]
  refine C8 fun a w=>?_
  have q:(fun b=>G a b*sg (k+1+k))=(fun b=>if b=a then 0 else (fun b=>G a b*sg (k+1+k)) b):=by
   funext b
   by_cases e:b=a
   ·subst e;rw [iP rfl];show (if b=b then 0 else _)*_=_;rw [iP rfl];grind
   ·rw [iN e]
  rw [q,<- B9p (by omega) (fun b=>G a b*sg (k+1+k)),dt,<- Hh]
  refine C8 fun i o=>?_
  have l:X k (rhx a i)=X (k+1) (rhx a i):=h _ (A3j o)
  have j:dt k (fun c r=>X c (rhx a (rhx i r)))=mn a (rhx a i):=by
   show _=dt k _
   refine W7 fun c r _ _=>?_
   by_cases d:i<a
   ·have g:rhx a i=i:=by rw [rhx,iP d]
    rw [g,iN (by omega)]
    congr 1
    simp only [rhx]
    repeat' split
    all_goals omega
   ·have g:rhx a i=i+1:=by rw [rhx,iN d]
    rw [g,iP (by omega),Nat.add_sub_cancel]
  rw [l,j]
  show _=(if a=rhx a i then 0 else if rhx a i<a then _ else _)*_
  rw [iN (fun e=>B2x a i e.symm)]
  have t:∀ x y:Nat,x%2=y%2->sg x=sg y:=fun x y e=>by unfold sg;rw [e]
  by_cases d:i<a
  ·have g:rhx a i=i:=by rw [rhx,iP d]
   rw [g,iP d]
   have p:sg (k+1+a)*sg (k+i)=sg (a+i)*sg (k+1+k):=by
    unfold sg
    repeat' split
    all_goals first|omega|grind
   grind
  ·have g:rhx a i=i+1:=by rw [rhx,iN d]
   rw [g,iN (by omega)]
   have p:sg (k+1+a)*sg (k+i)= - sg (a+(i+1))*sg (k+1+k):=by
    unfold sg
    repeat' split
    all_goals first|omega|grind
   grind
 have n:dt (k+2) X= - dt (k+2) X:=by
  have:dt (k+2) X=sm (k+2) fun a=>sm (k+2) fun b=>G b a*sg (k+1+k):=by
   rw [f];exact A66 _ _ _
  refine this.trans ?_
  rw [f,<- Ue]
  refine C8 fun a _=>?_
  rw [<- Ue]
  exact C8 fun b _=>by rw [s];grind
 grind
def C2c:∀ {k:Nat} (X:Nat->Nat->Rat) {p q:Nat} (_:p<q) (_:q<k) (_:∀ r,r<k->X p r=X q r),dt k X=0:=by
 intro k
 induction k with
 | zero=>intros;omega
 | succ k ih=>
  intro X p q i x h
  by_cases e:q=k
  ·subst e
   by_cases w:p+1=q
   ·subst w
    exact A97 X h
   ·
    obtain ⟨k',rfl⟩:∃ k',q=k'+1:=⟨q-1,by omega⟩
    have o:p<k':=by omega
    have swap:∀ (Z:Nat->Nat->Rat),dt (k'+1) (rc (rc Z p (Z k')) k' (Z p))= - dt (k'+1) Z:=by
     intro Z
     have g:∀ y:Nat->Rat,dt (k'+1) (rc (rc Z p y) k' y)=0:=fun y=>ih _ o (by omega) fun r _=>by
      unfold rc;rw [iN (by omega),iP rfl,iP rfl]
     have comm:∀ y z:Nat->Rat,rc (rc Z p y) k' z=rc (rc Z k' z) p y:=by
      intro y z;funext c r;unfold rc
      by_cases b:c=k'
      ·by_cases a:c=p
       ·omega
       ·rw [iP b,iN a,iP b]
      ·by_cases a:c=p
       ·rw [iN b,iP a,iP a]
       ·rw [iN b,iN a,iN a,iN b]
     have d:=g (fun r=>Z p r+Z k' r)
     rw [A4h _ (by omega)] at d
     rw [comm _ (Z p),comm _ (Z k'),A4h _ (by omega),A4h _ (by omega)] at d
     rw [<- comm,<- comm,<- comm,<- comm] at d
     rw [g (Z p),g (Z k')] at d
     have n:rc (rc Z p (Z p)) k' (Z k')=Z:=by rw [A6g,A6g]
     rw [n] at d
     grind
    have j:dt (k'+1+1) X= - dt (k'+1+1) (rc (rc X p (X k')) k' (X p)):=by
     rw [dt,dt,<- Ue]
     refine C8 fun l _=>?_
     have s:rc (rc X p (X k')) k' (X p) (k'+1) l=X (k'+1) l:=by unfold rc;rw [iN (by omega),iN (by omega)]
     have u:(fun c r=>rc (rc X p (X k')) k' (X p) c (rhx l r))=rc (rc (fun c r=>X c (rhx l r)) p (fun r=>X k' (rhx l r))) k' (fun r=>X p (rhx l r)):=by
      rw [Gg,Gg]
     have:=swap (fun c r=>X c (rhx l r))
     rw [s,u,this]
     grind
    rw [j,A97 _ fun r f=>?_]
    ·grind
    ·have t:rc (rc X p (X k')) k' (X p) k' r=X p r:=by unfold rc;rw [iP rfl]
     have m:rc (rc X p (X k')) k' (X p) (k'+1) r=X (k'+1) r:=by unfold rc;rw [iN (by omega),iN (by omega)]
     rw [t,m];exact h r f
  ·rw [dt]
   refine T4 fun l _=>?_
   rw [ih _ i (by omega) fun r f=>h (rhx l r) (A3j f)]
   grind
def C2b{k:Nat}(X:Nat->Nat->Rat)(h:∀ r,r<k->X k r=0):dt (k+1) X=X k k*dt k X:=by
 rw [dt,Ud (k:=k) (by omega) fun i e b=>by rw [h i (by omega)];grind]
 have:dt k (fun c r=>X c (rhx k r))=dt k X:=W7 fun c r _ d=>by rw [rhx,iP d]
 have a:sg (k+k)=1:=by unfold sg;rw [iP (by omega)]
 rw [this,a,cW]
def Wh(q:Rat):Prop:=∃ z:Int,q=(z:Rat)
def Wh.add{p q:Rat}(hp:Wh p)(hq:Wh q):Wh (p+q):=by
 obtain ⟨a,rfl⟩:=hp;obtain ⟨b,rfl⟩:=hq
 exact ⟨a+b,by rw [Rat.intCast_add]⟩
def Wh.mul{p q:Rat}(hp:Wh p)(hq:Wh q):Wh (p*q):=by
 obtain ⟨a,rfl⟩:=hp;obtain ⟨b,rfl⟩:=hq
 exact ⟨a*b,by rw [bJ]⟩
def Wh.sg(n:Nat):Wh (sg n):=by
 unfold Go.Proofs.YtmbfcbbkbefgfaaGreatDoor.sg
 split
 ·exact ⟨1,rfl⟩
 ·exact ⟨-1,by decide +kernel⟩
def Wh.sm{n:Nat}{f:Nat->Rat}(h:∀ i,i<n->Wh (f i)):Wh (sm n f):=by
 induction n with
 | zero=>exact ⟨0,rfl⟩
 | succ n ih=>exact (ih fun i a=>h i (by omega)).add (h n (by omega))
def C4n{k:Nat}: ∀ {X:Nat->Nat->Rat},(∀ c r,c<k->r<k->Wh (X c r))->Wh (dt k X):=by
 induction k with
 | zero=>intro X _;exact ⟨1,rfl⟩
 | succ k ih=>
  intro X h
  rw [dt]
  refine Wh.sm fun l b=>?_
  exact ((Wh.sg _).mul (h k l (by omega) b)).mul (ih fun c r d a=>h c _ (by omega) (A3j a))
structure Elim (n w:Nat) (B R:Nat->Nat->Rat) (cs:Nat->Nat) (k:Nat):Prop where
 kn:k<=n
 cw:∀ m,m<k->cs m<w
 piv:∀ l m,l<k->m<k->R l (cs m)=if l=m then 1 else 0
 low:∀ i m,i<n->k<=i->m<k->R i (cs m)=0
 top:∀ l j,l<k->j<w->B l j=sm k fun m=>B l (cs m)*R m j
 bot:∀ i j,i<n->k<=i->j<w->B i j=R i j+sm k fun m=>B i (cs m)*R m j
def dp(B:Nat->Nat->Rat)(cs:Nat->Nat)(k:Nat):Rat:=dt k fun c r=>B r (cs c)
section
variable {n w:Nat} {B R:Nat->Nat->Rat} {cs:Nat->Nat} {k:Nat}
def Elim.below(E:Elim n w B R cs k){i j:Nat}(hi:i<n)(hk:k<=i)(hj:j<w):dp B cs k*R i j=dt (k+1) fun c r=>B (if r<k then r else i) (if c<k then cs c else j):=by
 have e:(fun c r=>B (if r<k then r else i) (if c<k then cs c else j))=rc (fun c r=>B (if r<k then r else i) (cs c)) k (fun r=>B (if r<k then r else i) j)\/True:=.inr trivial
 clear e
 let X:Nat->Nat->Rat:=fun c r=>B (if r<k then r else i) (cs c)
 have g:dt (k+1) (fun c r=>B (if r<k then r else i) (if c<k then cs c else j))=dt (k+1) (rc X k fun r=>(sm k fun t=>R t j*X t r)+(if r<k then 0 else R i j)):=by
  refine W7 fun c r f b=>?_
  unfold rc
  by_cases h:c=k
  ·subst h
   rw [iN (aS c),iP rfl]
   show _=(sm c fun t=>R t j*X t r)+(if r<c then 0 else R i j)
   by_cases a:r<c
   ·rw [iP a,iP a,bV,E.top r j a hj]
    refine C8 fun m _=>?_
    show _=_*B (if r<c then r else i) (cs m)
    rw [iP a,aW]
   ·rw [iN a,iN a,E.bot i j hi hk hj,Rat.add_comm]
    congr 1
    refine C8 fun m _=>?_
    show _=_*B (if r<c then r else i) (cs m)
    rw [iN a,aW]
  ·rw [iN h,iP (show c<k by omega)]
 rw [g,A4h _ (by omega),C05 X (by omega) (fun t=>R t j) X]
 rw [T4 fun t d=>by
  rw [C2c (rc X k (X t)) (p:=t) (q:=k) d (by omega) fun r _=>by unfold rc;rw [iN (by omega),iP rfl]]
  exact aT _]
 rw [C2b _ fun r b=>by unfold rc;rw [iP rfl];show (if r<k then 0 else R i j)=0;rw [iP b]]
 have l:dt k (rc X k fun r=>if r<k then 0 else R i j)=dp B cs k:=by
  refine W7 fun c r f b=>?_
  unfold rc
  rw [iN (by omega)]
  show B (if r<k then r else i) (cs c)=_
  rw [iP b]
 rw [l]
 unfold rc
 rw [iP rfl]
 show _=0+(if k<k then 0 else R i j)*_
 rw [iN (aS k)]
 grind
def Elim.above(E:Elim n w B R cs k){i j:Nat}(hi:i<k)(hj:j<w):dp B cs k*R i j=dt k (rc (fun c r=>B r (cs c)) i fun r=>B r j):=by
 let X:Nat->Nat->Rat:=fun c r=>B r (cs c)
 have d:dt k (rc X i fun r=>B r j)=dt k (rc X i fun r=>sm k fun t=>R t j*X t r):=by
  refine W7 fun c r f b=>?_
  unfold rc
  split
  ·show B r j=sm k fun t=>R t j*X t r
   rw [E.top r j b hj]
   exact C8 fun m _=>aW _ _
  ·rfl
 show _=dt k (rc X i fun r=>B r j)
 rw [d,C05 X hi (fun t=>R t j) X,Ud (k:=i) hi fun t a e=>?_]
 ·rw [A6g,aW];rfl
 ·rcases Nat.lt_or_ge t i with h|h
  ·rw [C2c (rc X i (X t)) (p:=t) (q:=i) h hi fun r _=>by unfold rc;rw [iN (by omega),iP rfl]]
   exact aT _
  ·rw [C2c (rc X i (X t)) (p:=i) (q:=t) (by omega) a fun r _=>by unfold rc;rw [iP rfl,iN (by omega)]]
   exact aT _
def Elim.whole(E:Elim n w B R cs k)(hB:∀ i j,i<n->j<w->Wh (B i j)){i j:Nat}(hi:i<n)(hj:j<w):Wh (dp B cs k*R i j):=by
 by_cases h:i<k
 ·rw [E.above h hj]
  refine C4n fun c r a b=>?_
  have:=E.kn
  unfold rc
  split
  ·exact hB r j (by omega) hj
  ·exact hB r _ (by omega) (E.cw c a)
 ·rw [E.below hi (by omega) hj]
  refine C4n fun c r a b=>?_
  refine hB _ _ ?_ ?_
  ·split<;>omega
  ·split
   ·exact E.cw c (by assumption)
   ·exact hj
def Elim.next(E:Elim n w B R cs k){j:Nat}(hk:k<n)(hj:j<w)(hc:cs k=j):dp B cs (k+1)=dp B cs k*R k j:=by
 rw [E.below hk (aE _) hj]
 refine W7 fun c r d e=>?_
 have a:(if r<k then r else k)=r:=by split<;>omega
 have b:(if c<k then cs c else j)=cs c:=by
  split
  ·rfl
  ·have:c=k:=by omega
   rw [this,hc]
 rw [a,b]
def Cd(R:Nat->Nat->Rat)(k j:Nat):Nat->Nat->Rat:=fun a b=>if a=k then R k b/R k j else R a b-R a j*(R k b/R k j)
def Elim.step(E:Elim n w B R cs k){j:Nat}(hk:k<n)(hj:j<w)(hc:cs k=j)(hne:R k j≠0):Elim n w B (Cd R k j) cs (k+1):=by
 have d:∀ m,m<k->R k (cs m)=0:=fun m o=>E.low k m hk (aE _) o
 have f:R k j/R k j=1:=by grind
 refine ⟨by omega,fun m o=>?_,fun l m A o=>?_,fun i m p r o=>?_,fun l b A q=>?_,fun i b p r q=>?_⟩
 ·by_cases e:m=k
  ·rw [e,hc];exact hj
  ·exact E.cw m (by omega)
 ·unfold Cd
  by_cases t:m=k
  ·subst t
   rw [hc]
   by_cases c:l=m
   ·rw [iP c,iP c];exact f
   ·rw [iN c,iN c,f];grind
  ·have a:m<k:=by omega
   rw [d m a]
   by_cases c:l=k
   ·subst c
    rw [iP rfl,iN (by omega)];grind
   ·rw [iN c,E.piv l m (by omega) a]
    grind
 ·unfold Cd
  rw [iN (by omega)]
  by_cases t:m=k
  ·subst t
   rw [hc,f];grind
  ·have a:m<k:=by omega
   rw [d m a,E.low i m p (by omega) a]
   grind
 ·rw [sm]
  have s:(Cd R k j) k b=R k b/R k j:=by unfold Cd;rw [iP rfl]
  have u:sm k (fun m=>B l (cs m)*Cd R k j m b)=sm k (fun m=>B l (cs m)*R m b)-sm k (fun m=>B l (cs m)*R m j)*(R k b/R k j):=by
   have:(fun m=>B l (cs m)*Cd R k j m b)=fun m=>if m=k then B l (cs k)*(R k b/R k j) else B l (cs m)*R m b+(-(R k b/R k j))*(B l (cs m)*R m j):=by
    funext m
    unfold Cd
    by_cases e:m=k
    ·rw [iP e,iP e,e]
    ·rw [iN e,iN e];grind
   rw [this,C8 (g:=fun m=>B l (cs m)*R m b+(-(R k b/R k j))*(B l (cs m)*R m j)) fun m o=>by rw [iN (by omega)]]
   rw [Ii,Hh];grind
  rw [s,u,hc]
  by_cases c:l=k
  ·subst c
   have x:=E.bot l b hk (aE _) q
   have y:=E.bot l j hk (aE _) hj
   grind
  ·have x:=E.top l b (by omega) q
   have y:=E.top l j (by omega) hj
   grind
 ·rw [sm]
  have s:(Cd R k j) k b=R k b/R k j:=by unfold Cd;rw [iP rfl]
  have u:sm k (fun m=>B i (cs m)*Cd R k j m b)=sm k (fun m=>B i (cs m)*R m b)-sm k (fun m=>B i (cs m)*R m j)*(R k b/R k j):=by
   have:(fun m=>B i (cs m)*Cd R k j m b)=fun m=>if m=k then B i (cs k)*(R k b/R k j) else B i (cs m)*R m b+(-(R k b/R k j))*(B i (cs m)*R m j):=by
    funext m
    unfold Cd
    by_cases e:m=k
    ·rw [iP e,iP e,e]
    ·rw [iN e,iN e];grind
   rw [this,C8 (g:=fun m=>B i (cs m)*R m b+(-(R k b/R k j))*(B i (cs m)*R m j)) fun m o=>by rw [iN (by omega)]]
   rw [Ii,Hh];grind
  have z:Cd R k j i b=R i b-R i j*(R k b/R k j):=by unfold Cd;rw [iN (by omega)]
  have x:=E.bot i b p (by omega) q
  have y:=E.bot i j p (by omega) hj
  rw [s,u,z,hc]
  grind
def xch(k l:Nat)(i:Nat):Nat:=if i=k then l else if i=l then k else i
def Elim.swap(E:Elim n w B R cs k){l:Nat}(hk:k<=l)(hl:l<n):Elim n w (fun i=>B (xch k l i)) (fun i=>R (xch k l i)) cs k:=by
 have e:∀ i,i<k->xch k l i=i:=fun i f=>by unfold xch;rw [iN (by omega),iN (by omega)]
 have o:∀ i,i<n->k<=i->xch k l i<n/\k<=xch k l i:=fun i p q=>by unfold xch;split<;>(try split)<;>omega
 refine ⟨E.kn,E.cw,fun a m d c=>?_,fun i m f b c=>?_,fun a j d g=>?_,fun i j f b g=>?_⟩
 ·show R (xch k l a) _=_
  rw [e a d];exact E.piv a m d c
 ·have:=o i f b
  exact E.low _ m this.1 this.2 c
 ·show B (xch k l a) j=sm k fun m=>B (xch k l a) (cs m)*R (xch k l m) j
  rw [e a d,E.top a j d g]
  exact C8 fun m c=>by rw [e m c]
 ·have:=o i f b
  show B (xch k l i) j=R (xch k l i) j+sm k fun m=>B (xch k l i) (cs m)*R (xch k l m) j
  rw [E.bot _ j this.1 this.2 g]
  congr 1
  exact C8 fun m c=>by rw [e m c]
def C2d(B:Nat->Nat->Rat)(cs:Nat->Nat){k l:Nat}(hk:k<=l):dp (fun i=>B (xch k l i)) cs k=dp B cs k:=by
 refine W7 fun c r _ a=>?_
 show B (xch k l r) _=_
 unfold xch;rw [iN (by omega),iN (by omega)]
def Elim.start:Elim n w B B cs 0:=by
 refine ⟨bL _,fun m b=>by omega,fun l m a=>by omega,fun i m _ _ b=>by omega,fun l j a=>by omega,fun i j _ _ _=>by rw [sm,bV]⟩
def Elim.cs_congr{cs':Nat->Nat}(E:Elim n w B R cs k)(h:∀ m,m<k->cs m=cs' m):Elim n w B R cs' k:=by
 refine ⟨E.kn,fun m a=>by rw [<- h m a];exact E.cw m a,fun l m b a=>by rw [<- h m a];exact E.piv l m b a,fun i m d e a=>by rw [<- h m a];exact E.low i m d e a,fun l j b c=>?_,fun i j d e c=>?_⟩
 ·rw [E.top l j b c];exact C8 fun m a=>by rw [h m a]
 ·rw [E.bot i j d e c];congr 1;exact C8 fun m a=>by rw [h m a]
def B89{cs':Nat->Nat}(h:∀ m,m<k->cs m=cs' m):dp B cs k=dp B cs' k:=W7 fun c r a _=>by rw [h c a]
end
end Go.Proofs.YtmbfcbbkbefgfaaGreatDoor
namespace Go.Proofs.YtmbfcbbkbefgfaaGreatDoor
set_option maxRecDepth 20000
def fnd(p:Nat->Bool):Nat->Nat->Nat
 | 0,i=>i
 | f+1,i=>bif p i then i else fnd p f (i+1)
def A46(p:Nat->Bool):∀ f i,i<=fnd p f i/\fnd p f i<=i+f:=by
 intro f
 induction f with
 | zero=>intro i;simp [fnd]
 | succ f ih=>
  intro i
  unfold fnd
  cases p i with
  | true=>simp
  | false=>have:=ih (i+1);simp only [cond_false];omega
def A0x(p:Nat->Bool):∀ f i,fnd p f i<i+f->p (fnd p f i)=true:=by
 intro f
 induction f with
 | zero=>intro i h;simp [fnd] at h
 | succ f ih=>
  intro i h
  unfold fnd at h ⊢
  cases hp:p i with
  | true=>simp only [hp,cond_true]
  | false=>simp only [hp,cond_false] at h ⊢;exact ih (i+1) (by omega)
def Th(p:Nat->Bool):∀ f i j,i<=j->j<fnd p f i->p j=false:=by
 intro f
 induction f with
 | zero=>intro i j b a;simp [fnd] at a;omega
 | succ f ih=>
  intro i j b a
  unfold fnd at a
  cases hp:p i with
  | true=>simp only [hp,cond_true] at a;omega
  | false=>
   simp only [hp,cond_false] at a
   by_cases e:j=i
   ·rw [e];exact hp
   ·exact ih (i+1) j (by omega) a
def B45{p q:Nat->Bool}: ∀ f i,(∀ j,i<=j->j<i+f->p j=q j)->fnd p f i=fnd q f i:=by
 intro f
 induction f with
 | zero=>intros;rfl
 | succ f ih=>
  intro i h
  unfold fnd
  rw [h i (by omega) (by omega),ih (i+1) fun j b a=>h j (by omega) (by omega)]
def B44(p:Nat->Bool){f i k:Nat}(h1:i<=k)(h2:k<=i+f)(h3:∀ j,i<=j->j<k->p j=false)(h4:k<i+f->p k=true):fnd p f i=k:=by
 have a:=A46 p f i
 rcases Nat.lt_trichotomy (fnd p f i) k with h|h|h
 ·have:=A0x p f i (by omega);rw [h3 _ a.1 h] at this;cases this
 ·exact h
 ·have:=Th p f i k h1 h;rw [h4 (by omega)] at this;cases this
structure ES where
 R:Nat->Nat->Rat
 cs:List Nat
 det:Rat
def elimE(R:Nat->Nat->Rat)(k j:Nat):Nat->Nat->Rat:=fun a b=>if a=k then R k b/R k j else if R a j=0\/b<j then R a b else R a b-R a j*(R k b/R k j)
def Ht(n c:Nat)(s:ES):Nat:=fnd (fun i=>decide (s.R i c≠0)) (n-s.cs.length) s.cs.length
def Gb(n c:Nat)(s:ES):ES:=
 if s.cs.length<n then
  if Ht n c s<n then
   { R:=elimE (fun i=>s.R (xch s.cs.length (Ht n c s) i)) s.cs.length c
     cs:=s.cs++[c]
     det:=(if Ht n c s=s.cs.length then s.det else-s.det)*s.R (Ht n c s) c }
  else { s with det:=0 }
 else s
def A8d(n:Nat)(s:ES):Nat->ES
 | 0=>s
 | c+1=>Gb n c (A8d n s c)
structure PS where
 M:Nat->Nat->Int
 S:Nat->Rat
 cs:List Nat
 last:Int
 sgn:Int
def clr(M:Nat->Nat->Int)(r c:Nat)(d:Int):Nat->Nat->Int:=fun a b=>if a=r then M r b else (M r c*M a b-M a c*M r b).tdiv d
def Uh(n c:Nat)(s:PS):Nat:=fnd (fun i=>decide (s.M i c≠0)) (n-s.cs.length) s.cs.length
def Ih(n c:Nat)(s:PS):PS:=
 if Uh n c s<n then
  { M:=clr (fun i=>s.M (xch s.cs.length (Uh n c s) i)) s.cs.length c s.last
    S:=fun i=>s.S (xch s.cs.length (Uh n c s) i)
    cs:=s.cs++[c]
    last:=s.M (Uh n c s) c
    sgn:=if Uh n c s=s.cs.length then s.sgn else-s.sgn }
 else s
def Cw(n:Nat)(s:PS):Nat->PS
 | 0=>s
 | c+1=>Ih n c (Cw n s c)
def pr:Nat->(Nat->Rat)->Rat
 | 0,_=>1
 | n+1,f=>pr n f*f n
def B7q{n:Nat}{f g:Nat->Rat}(h:∀ i,i<n->f i=g i):pr n f=pr n g:=by
 induction n with
 | zero=>rfl
 | succ n ih=>rw [pr,pr,ih (fun i a=>h i (by omega)),h n (by omega)]
def Sy(k l:Nat):xch k l k=l:=by unfold xch;rw [iP rfl]
def Rl{k l i n:Nat}(hk:k<n)(hl:l<n)(hi:i<n):xch k l i<n:=by unfold xch;split<;>(try split)<;>omega
def B1s{k l i:Nat}(hkl:k<=l)(hi:k<=i):k<=xch k l i:=by unfold xch;split<;>(try split)<;>omega
def A2q{k l i:Nat}(hkl:k<=l)(hi:i<k):xch k l i=i:=by unfold xch;rw [iN (by omega),iN (by omega)]
def A63{x d z:Int}(hd:d≠0)(h:x=d*z):x.tdiv d=z:=by
 rw [h,dV _ hd]
structure ERel (n w c:Nat) (A:Nat->Nat->Rat) (s:ES) (t:PS):Prop where
 cs:s.cs=t.cs
 elim:∃ B,(∀ i j,i<n->j<w->Wh (B i j))/\Elim n w B (fun i j=>if i<s.cs.length then s.R i j else t.S i*s.R i j) (fun m=>s.cs.getD m 0) s.cs.length/\(t.last:Rat)=dp B (fun m=>s.cs.getD m 0) s.cs.length
 last:t.last≠0
 val:∀ i j,i<n->j<w->(t.M i j:Rat)=t.last*(if i<s.cs.length then s.R i j else t.S i*s.R i j)
 scale:∀ i,i<n->t.S i≠0
 zero:∀ i j,i<n->s.cs.length<=i->j<c->s.R i j=0
 asc:s.cs.length<=c
 det:s.cs.length=c->s.det*pr s.cs.length t.S=t.sgn*t.last
 miss:s.cs.length<c->s.cs.length<n->s.det=0
 sgn:t.sgn=1\/t.sgn= -1
def X8{z:Int}(h:z≠0):(z:Rat)≠0:=by
 intro e
 exact h (by exact_mod_cast e)
def ERel.start{n w:Nat}{A:Nat->Nat->Rat}{M:Nat->Nat->Int}{S:Nat->Rat}(h:∀ i j,i<n->j<w->(M i j:Rat)=S i*A i j)(hS:∀ i,i<n->S i≠0):ERel n w 0 A ⟨A,[],1⟩ ⟨M,S,[],1,1⟩:=by
 have e:∀ (x:Rat),((1:Int):Rat)*x=x:=fun x=>by
  have:((1:Int):Rat)=1:=rfl
  rw [this,cW]
 refine ⟨rfl,⟨fun i j=>S i*A i j,fun i j b a=>⟨M i j,(h i j b a).symm⟩,?_,rfl⟩,(by decide:(1:Int)≠0),fun i j b a=>?_,hS,fun i j _ _ a=>by omega,aE _,fun _=>?_,fun h=>by simp at h,.inl rfl⟩
 ·have:(fun i j=>if i<([]:List Nat).length then A i j else S i*A i j)=fun i j=>S i*A i j:=by
   funext i j;rw [iN (by simp)]
  show Elim n w _ (fun i j=>if i<([]:List Nat).length then A i j else S i*A i j) _ 0
  rw [this]
  exact Elim.start
 ·show (M i j:Rat)=((1:Int):Rat)*(if i<([]:List Nat).length then A i j else S i*A i j)
  rw [e,iN (by simp),h i j b a]
 ·show (1:Rat)*pr 0 S=((1:Int):Rat)*((1:Int):Rat)
  rw [e]
  exact cW _
def Va(l:List Nat)(c:Nat):∀ m,m<l.length->(l++[c]).getD m 0=l.getD m 0:=by
 intro m a
 rw [aJ,aJ,aU a]
def Vb(l:List Nat)(c:Nat):(l++[c]).getD l.length 0=c:=by
 rw [aJ,bB (aE _)];simp
def ERel.row{n w c:Nat}{A:Nat->Nat->Rat}{s:ES}{t:PS}(h:ERel n w c A s t)(hc:c<w):Uh n c t=Ht n c s:=by
 unfold Uh Ht
 rw [<- h.cs]
 refine B45 _ _ fun j k l=>?_
 have a:=h.val j c (by omega) hc
 rw [iN (by omega)] at a
 have i:=X8 h.last
 have f:=h.scale j (by omega)
 refine decide_eq_decide.2 (not_congr ⟨fun e=>?_,fun e=>?_⟩)
 ·rw [e] at a
  have g:((0:Int):Rat)=0:=rfl
  rw [g] at a
  rcases Rat.mul_eq_zero.1 a.symm with b|b
  ·exact absurd b i
  ·rcases Rat.mul_eq_zero.1 b with d|d
   ·exact absurd d f
   ·exact d
 ·rw [e,aT,aT] at a
  exact_mod_cast a
def ERel.step{n w c:Nat}{A:Nat->Nat->Rat}{s:ES}{t:PS}(h:ERel n w c A s t)(hc:c<w):ERel n w (c+1) A (Gb n c s) (Ih n c t):=by
 have W:=h.row hc
 have d:=A46 (fun i=>decide (s.R i c≠0)) (n-s.cs.length) s.cs.length
 have C:=Th (fun i=>decide (s.R i c≠0)) (n-s.cs.length) s.cs.length
 have N:=A0x (fun i=>decide (s.R i c≠0)) (n-s.cs.length) s.cs.length
 have hR:fnd (fun i=>decide (s.R i c≠0)) (n-s.cs.length) s.cs.length=Ht n c s:=rfl
 rw [hR] at d C N
 obtain ⟨B,hB,E,hD⟩:=h.elim
 unfold Gb Ih
 rw [W]
 by_cases D:Ht n c s<n
 ·have o:s.cs.length<n:=by omega
  rw [iP o,iP D,iP D,<- h.cs]
  generalize hr:Ht n c s=r at *
  generalize hl:s.cs.length=k at *
  have af:s.R r c≠0:=by
   have:=N (by omega)
   simpa using this
  have E1:=E.swap (l:=r) d.1 D
  have L:∀ m,m<k->s.cs.getD m 0=(s.cs++[c]).getD m 0:=fun m hm=>(Va s.cs c m (by omega)).symm
  have E2:=E1.cs_congr L
  have F:(s.cs++[c]).getD k 0=c:=by rw [<- hl];exact Vb _ _
  have f:(s.cs++[c]).length=k+1:=by rw [aC,hl];rfl
  have J:xch k r k=r:=Sy k r
  have Z:(if xch k r k<k then s.R (xch k r k) c else t.S (xch k r k)*s.R (xch k r k) c)=t.S r*s.R r c:=by rw [J,iN (by omega)]
  have ag:=h.scale r D
  have H:t.S r*s.R r c≠0:=by
   intro e
   rcases Rat.mul_eq_zero.1 e with e|e
   ·exact ag e
   ·exact af e
  have E3:=E2.step (j:=c) o hc F (by show (if xch k r k<k then _ else _)≠0;rw [Z];exact H)
  have ac:=E2.next (j:=c) o hc F
  have ah:dp (fun i=>B (xch k r i)) (fun m=>(s.cs++[c]).getD m 0) k=(t.last:Rat):=by
   rw [hD,<- B89 L,C2d B _ d.1]
  rw [ah] at ac
  have ai:(if xch k r k<k then s.R (xch k r k) c else t.S (xch k r k)*s.R (xch k r k) c)=t.S r*s.R r c:=Z
  have q:(t.M r c:Rat)=t.last*(t.S r*s.R r c):=by
   have:=h.val r c D hc
   rw [iN (by omega)] at this;exact this
  have O:dp (fun i=>B (xch k r i)) (fun m=>(s.cs++[c]).getD m 0) (k+1)=(t.M r c:Rat):=by
   rw [ac,q]
   show (t.last:Rat)*(if xch k r k<k then s.R (xch k r k) c else t.S (xch k r k)*s.R (xch k r k) c)=_
   rw [ai]
  have aa:=X8 h.last
  have V:t.M r c≠0:=by
   intro e
   rw [e] at q
   have h0:((0:Int):Rat)=0:=rfl
   rw [h0] at q
   rcases Rat.mul_eq_zero.1 q.symm with e1|e1
   ·exact aa e1
   ·exact H e1
  have hz:∀ b,b<c->s.R r b=0:=fun b hb=>h.zero r b D (by omega) hb
  have hQ:∀ i j,(if i<k+1 then elimE (fun i=>s.R (xch k r i)) k c i j else t.S (xch k r i)*elimE (fun i=>s.R (xch k r i)) k c i j)=Cd (fun i j=>if xch k r i<k then s.R (xch k r i) j else t.S (xch k r i)*s.R (xch k r i) j) k c i j:=by
   intro i j
   unfold elimE Cd
   by_cases e:i=k
   ·subst e
    simp only [if_true,J,iN (show ¬ r<i by omega),iP (show i<i+1 by omega)]
    grind
   ·have hb:s.R r j=0\/¬ j<c:=by
     by_cases u:j<c
     ·exact .inl (hz j u)
     ·exact .inr u
    simp only [iN e,J,iN (show ¬ r<k by omega)]
    by_cases a:i<k
    ·rw [iP (show i<k+1 by omega),A2q d.1 a,iP a,iP a]
     split
     ·rename_i p
      rcases p with p|p
      ·rw [p];grind
      ·rw [hz j p];grind
     ·grind
    ·have Q:¬ xch k r i<k:=by have:=B1s (i:=i) d.1 (by omega);omega
     rw [iN (show ¬ i<k+1 by omega),iN Q,iN Q]
     split
     ·rename_i p
      rcases p with p|p
      ·rw [p];grind
      ·rw [hz j p];grind
     ·grind
  have ae:(fun i j=>if i<k+1 then elimE (fun i=>s.R (xch k r i)) k c i j else t.S (xch k r i)*elimE (fun i=>s.R (xch k r i)) k c i j)=Cd (fun i j=>if xch k r i<k then s.R (xch k r i) j else t.S (xch k r i)*s.R (xch k r i) j) k c:=by
   funext i j;exact hQ i j
  have y:∀ i,i<n->xch k r i<n:=fun i a=>Rl o D a
  refine ⟨rfl,⟨fun i=>B (xch k r i),fun i j a u=>hB _ j (y i a) u,?_,?_⟩,V,fun i j a u=>?_,fun i a=>h.scale _ (y i a),fun i j a x u=>?_,?_,fun T=>?_,fun T _=>?_,?_⟩
  ·show Elim n w _ (fun i j=>if i<(s.cs++[c]).length then elimE (fun i=>s.R (xch k r i)) k c i j else t.S (xch k r i)*elimE (fun i=>s.R (xch k r i)) k c i j) _ (s.cs++[c]).length
   rw [f,ae]
   exact E3
  ·show (t.M r c:Rat)=dp _ _ (s.cs++[c]).length
   rw [f,O]
  ·show (clr (fun i=>t.M (xch k r i)) k c t.last i j:Rat)=(t.M r c:Rat)*(if i<(s.cs++[c]).length then elimE (fun i=>s.R (xch k r i)) k c i j else t.S (xch k r i)*elimE (fun i=>s.R (xch k r i)) k c i j)
   rw [f,hQ i j]
   unfold clr
   by_cases e:i=k
   ·subst e
    rw [iP rfl]
    show (t.M (xch i r i) j:Rat)=_
    rw [J]
    unfold Cd
    simp only [if_true,J,iN (show ¬ r<i by omega)]
    have:=h.val r j D u
    rw [iN (by omega)] at this
    rw [this,q]
    grind
   ·rw [iN e]
    show (((t.M (xch k r k) c*t.M (xch k r i) j-t.M (xch k r i) c*t.M (xch k r k) j).tdiv t.last:Int):Rat)=_
    rw [J]
    have hw:=E3.whole (fun i j a u=>hB _ j (y i a) u) a u
    rw [O] at hw
    obtain ⟨z,X⟩:=hw
    have v1:=h.val (xch k r i) j (y i a) u
    have v2:=h.val (xch k r i) c (y i a) hc
    have v3:=h.val r j D u
    rw [hl] at v1 v2 v3
    rw [iN (show ¬ r<k by omega)] at v3
    have Q:t.M r c*t.M (xch k r i) j-t.M (xch k r i) c*t.M r j=t.last*z:=by
     have:((t.M r c*t.M (xch k r i) j-t.M (xch k r i) c*t.M r j:Int):Rat)=((t.last*z:Int):Rat):=by
      rw [Rat.intCast_sub,bJ,bJ,bJ,<- X,v1,v2,v3,q]
      unfold Cd
      simp only [iN e,J,iN (show ¬ r<k by omega)]
      generalize (if xch k r i<k then s.R (xch k r i) j else t.S (xch k r i)*s.R (xch k r i) j)=u1
      generalize (if xch k r i<k then s.R (xch k r i) c else t.S (xch k r i)*s.R (xch k r i) c)=u2
      have p:t.S r*s.R r j/(t.S r*s.R r c)*(t.S r*s.R r c)=t.S r*s.R r j:=by
       rw [dF H]
      grind
     exact_mod_cast this
    rw [A63 h.last Q,<- X]
  ·show elimE (fun i=>s.R (xch k r i)) k c i j=0
   have aj:k+1<=i:=by
    have:(s.cs++[c]).length<=i:=x
    omega
   have ak:=B1s (i:=i) d.1 (show k<=i by omega)
   unfold elimE
   rw [iN (by omega)]
   simp only [J]
   by_cases e:j=c
   ·subst e
    split
    ·rename_i p
     rcases p with p|p
     ·exact p
     ·omega
    ·grind
   ·rw [iP (.inr (by omega))]
    exact h.zero _ j (y i a) (by omega) (by omega)
  ·show (s.cs++[c]).length<=c+1
   have:=h.asc
   omega
  ·show (if r=k then s.det else -s.det)*s.R r c*pr (s.cs++[c]).length (fun i=>t.S (xch k r i))=((if r=k then t.sgn else -t.sgn:Int):Rat)*(t.M r c:Rat)
   have al:k=c:=by
    have:(s.cs++[c]).length=c+1:=T
    omega
   have hd:=h.det (by omega)
   rw [hl] at hd
   rw [f,pr,J,B7q (g:=t.S) fun i a=>by rw [A2q d.1 a],q]
   by_cases e:r=k
   ·rw [iP e,iP e];grind
   ·rw [iN e,iN e,Rat.intCast_neg];grind
  ·show (if r=k then s.det else -s.det)*s.R r c=0
   have:(s.cs++[c]).length<c+1:=T
   have hd:=h.miss (by omega) (by omega)
   rw [hd]
   split<;>grind
  ·show (if r=k then t.sgn else -t.sgn)=1\/(if r=k then t.sgn else -t.sgn)= -1
   have:=h.sgn
   split<;>omega
 ·rw [iN D,iN D]
  have ad:∀ i,i<n->s.cs.length<=i->s.R i c=0:=by
   intro i a x
   have:=C i x (by omega)
   simpa using this
  have G:∀ i j,i<n->s.cs.length<=i->j<c+1->s.R i j=0:=by
   intro i j a x u
   by_cases e:j=c
   ·rw [e];exact ad i a x
   ·exact h.zero i j a x (by omega)
  by_cases o:s.cs.length<n
  ·rw [iP o]
   exact ⟨h.cs,⟨B,hB,E,hD⟩,h.last,h.val,h.scale,G,cX h.asc,fun T=>by have:=h.asc;have:s.cs.length=c+1:=T;omega,fun _ _=>rfl,h.sgn⟩
  ·rw [iN o]
   exact ⟨h.cs,⟨B,hB,E,hD⟩,h.last,h.val,h.scale,G,cX h.asc,fun T=>by have:=h.asc;omega,fun _ Q=>absurd Q o,h.sgn⟩
def ERel.run{n w:Nat}{A:Nat->Nat->Rat}{s:ES}{t:PS}(h:ERel n w 0 A s t):∀ c,c<=w->ERel n w c A (A8d n s c) (Cw n t c):=by
 intro c
 induction c with
 | zero=>exact fun _=>h
 | succ c ih=>exact fun a=>(ih (by omega)).step (by omega)
end Go.Proofs.YtmbfcbbkbefgfaaGreatDoor
namespace Go.Proofs.YtmbfcbbkbefgfaaGreatDoor
set_option maxRecDepth 20000
def Sz.elimE{n w k j m:Nat}{R:Nat->Nat->Rat}(hR:∀ a b,a<n->b<w->Sz m (R a b))(hk:k<n)(hj:j<w)(hm:1<=m){a b:Nat}(ha:a<n)(hb:b<w):Sz (7*m) (elimE R k j a b):=by
 have c:Sz (m+m) (R k b/R k j):=(hR k b hk hb).div (hR k j hk hj) hm
 unfold Go.Proofs.YtmbfcbbkbefgfaaGreatDoor.elimE
 split
 ·exact c.mono (by omega)
 ·split
  ·exact (hR a b ha hb).mono (by omega)
  ·exact ((hR a b ha hb).sub ((hR a j ha hj).mul c)).mono (by omega)
def C1k(n c:Nat)(s:ES)(h:s.cs.length<=n):s.cs.length<=Ht n c s/\Ht n c s<=n:=by
 have:=A46 (fun i=>decide (s.R i c≠0)) (n-s.cs.length) s.cs.length
 unfold Ht
 omega
structure SzE (n w m:Nat) (s:ES):Prop where
 R:∀ a b,a<n->b<w->Sz (7^s.cs.length*m) (s.R a b)
 det:Sz (7^s.cs.length*m) s.det
 len:s.cs.length<=n
def Tf(k m:Nat)(hm:1<=m):1<=7^k*m:=by
 have:0<7^k:=dC (by decide)
 exact Nat.mul_pos this hm
def SzE.step{n w m c:Nat}{s:ES}(h:SzE n w m s)(hm:1<=m)(hc:c<w):SzE n w m (Gb n c s):=by
 have l:=C1k n c s h.len
 have j:=Tf s.cs.length m hm
 unfold Gb
 by_cases f:s.cs.length<n
 ·rw [iP f]
  by_cases d:Ht n c s<n
  ·rw [iP d]
   have e:(s.cs++[c]).length=s.cs.length+1:=by simp
   have k:7^(s.cs.length+1)*m=7*(7^s.cs.length*m):=by rw [dZ,aO (7^s.cs.length) 7,dD]
   refine ⟨fun a b i g=>?_,?_,?_⟩
   ·show Sz (7^(s.cs++[c]).length*m) _
    rw [e,k]
    exact Sz.elimE (n:=n) (w:=w) (fun a b i g=>h.R _ b (Rl f d i) g) f hc j i g
   ·show Sz (7^(s.cs++[c]).length*m) ((if Ht n c s=s.cs.length then s.det else -s.det)*s.R (Ht n c s) c)
    rw [e,k]
    have:Sz (7^s.cs.length*m) (if Ht n c s=s.cs.length then s.det else -s.det):=by
     split
     ·exact h.det
     ·exact h.det.neg
    exact (this.mul (h.R _ c d hc)).mono (by omega)
   ·show (s.cs++[c]).length<=n
    omega
  ·rw [iN d]
   exact ⟨h.R,Sz.zero j,h.len⟩
 ·rw [iN f];exact h
def SzE.run{n w m:Nat}{s:ES}(h:SzE n w m s)(hm:1<=m):∀ c,c<=w->SzE n w m (A8d n s c):=by
 intro c
 induction c with
 | zero=>exact fun _=>h
 | succ c ih=>exact fun a=>(ih (by omega)).step hm (by omega)
def B8q{m:Nat}{x d:Int}(h:ZB m x):ZB m (x.tdiv d):=by
 refine h.le ?_
 rw [Int.natAbs_tdiv]
 exact Nat.div_le_self _ _
def ZB.clr{n w k j m:Nat}{M:Nat->Nat->Int}{d:Int}(hM:∀ a b,a<n->b<w->ZB m (M a b))(hk:k<n)(hj:j<w){a b:Nat}(ha:a<n)(hb:b<w):ZB (2*m+1) (clr M k j d a b):=by
 unfold Go.Proofs.YtmbfcbbkbefgfaaGreatDoor.clr
 split
 ·exact (hM k b hk hb).mono (by omega)
 ·refine B8q ?_
  have e:=(hM k j hk hj).mul (hM a b ha hb)
  have c:=(hM a j ha hj).mul (hM k b hk hb)
  exact (e.sub c).mono (by omega)
def A6c(n c:Nat)(s:PS)(h:s.cs.length<=n):s.cs.length<=Uh n c s/\Uh n c s<=n:=by
 have:=A46 (fun i=>decide (s.M i c≠0)) (n-s.cs.length) s.cs.length
 unfold Uh
 omega
structure ZbP (n w m l:Nat) (s:PS):Prop where
 M:∀ a b,a<n->b<w->ZB (3^s.cs.length*m) (s.M a b)
 last:ZB (3^s.cs.length*m) s.last
 S:∀ a,a<n->Sz l (s.S a)
 len:s.cs.length<=n
def A0m(k m:Nat)(hm:1<=m):1<=3^k*m:=by
 have:0<3^k:=dC (by decide)
 exact Nat.mul_pos this hm
def ZbP.step{n w m l c:Nat}{s:PS}(h:ZbP n w m l s)(hm:1<=m)(hc:c<w):ZbP n w m l (Ih n c s):=by
 have k:=A6c n c s h.len
 have o:=A0m s.cs.length m hm
 unfold Ih
 by_cases d:Uh n c s<n
 ·rw [iP d]
  have g:s.cs.length<n:=by omega
  have e:(s.cs++[c]).length=s.cs.length+1:=by simp
  have j:3^(s.cs.length+1)*m=3*(3^s.cs.length*m):=by rw [dZ,aO (3^s.cs.length) 3,dD]
  refine ⟨fun a b f i=>?_,?_,fun a f=>h.S _ (Rl g d f),?_⟩
  ·show ZB (3^(s.cs++[c]).length*m) _
   rw [e,j]
   exact (ZB.clr (n:=n) (w:=w) (fun a b f i=>h.M _ b (Rl g d f) i) g hc f i).mono (by omega)
  ·show ZB (3^(s.cs++[c]).length*m) (s.M (Uh n c s) c)
   rw [e,j]
   exact (h.M _ c d hc).mono (by omega)
  ·show (s.cs++[c]).length<=n
   omega
 ·rw [iN d];exact h
def ZbP.run{n w m l:Nat}{s:PS}(h:ZbP n w m l s)(hm:1<=m):∀ c,c<=w->ZbP n w m l (Cw n s c):=by
 intro c
 induction c with
 | zero=>exact fun _=>h
 | succ c ih=>exact fun a=>(ih (by omega)).step hm (by omega)
structure Asc (l:List Nat) (c:Nat):Prop where
 lt:∀ x∈l,x<c
 asc:l.Pairwise (· < ·)
def Asc.snoc{l:List Nat}{c:Nat}(h:Asc l c):Asc (l++[c]) (c+1):=by
 refine ⟨fun x d=>?_,?_⟩
 ·rcases List.mem_append.1 d with d|d
  ·have:=h.lt x d;omega
  ·simp at d;omega
 ·rw [List.pairwise_append]
  refine ⟨h.asc,by simp,fun a f b e=>?_⟩
  simp at e;subst e;exact h.lt a f
def Asc.mono{l:List Nat}{c d:Nat}(h:Asc l c)(hcd:c<=d):Asc l d:=⟨fun x a=>Nat.lt_of_lt_of_le (h.lt x a) hcd,h.asc⟩
def Te(n:Nat)(s:ES)(h:s.cs=[]):∀ c,Asc (A8d n s c).cs c:=by
 intro c
 induction c with
 | zero=>show Asc s.cs 0;rw [h];exact ⟨by simp,.nil⟩
 | succ c ih=>
  show Asc (Gb n c (A8d n s c)).cs (c+1)
  unfold Gb
  split
  ·split
   ·exact ih.snoc
   ·exact ih.mono (by omega)
  ·exact ih.mono (by omega)
def Ec(z:Int)(l:List cG):iAt (I z::l) 0=z:=rfl
def B02:prog.cellsOf K9=4/\(prog.info? K9).isSome=true:=Cu
def B2f:prog.cellsOf K0=4/\(prog.info? K0).isSome=true:=Tc
section
variable {α β:Type} [E:Enc α] {R:aG->α->β->Prop}
def OwnK(R:aG->α->β->Prop)(h h':aG)(b n k:Nat)(f:Nat->β):Prop:=∃ g o xs,h.le g/\Sep h' g o/\RowX o b xs/\xs.length=n/\Row R g xs k f
def OwnK.zero{h:aG}{b n:Nat}{f:Nat->β}{e:cF}{z:α}(hb:h b=none):OwnK R h (C07 e h b (aP n z)) b n 0 f:=
 ⟨h,Bn.put b (.cells ((aP n z).flatMap enc).toArray e),aP n z,B4 _,Z2 hb,RowX.mk,by simp,Row.nil⟩
def OwnK.store(m:Mon R){P:cY}{t:cF}(one:P.cellsOf t=E.default.size/\(P.info? t).isSome=true){h h' g g' o:aG}{b n k:Nat}{f:Nat->β}{xs:List α}(lg:h.le g)(lg':g.le g')(s:Sep h' g' o)(rb:RowX o b xs)(hn:xs.length=n)(r:Row R g xs k f)(hk:k<n){v:cG}{y:α}(hv:v.cells=(enc y).toArray)(hy:R g' y (f k)){K:Unit->aG->Prop}
 (x:∀ h2,OwnK R h h2 b n (k+1) f->K () h2):wpH P (aX t (.pointer (some (aF ⟨b,0,none⟩ (k*E.default.size)))) v) K h':=by
 refine S4 one hv s rb (by omega) ?_
 intro h2 d i e a c
 exact x h2 ⟨g',d,_,B0 lg lg',a,c,by simpa using hn,(r.mono m lg').set (by omega) hy⟩
end
def Ay:QV:=⟨false,none,0,0,false,none,0,0⟩
section
variable {h:aG} {K:VP} {A:Option aL} {n c m:Nat} {ls:Nat->List UInt8} {f:Nat->Rat} {a w:QV} {q:Rat}
def Al(gl:Gl h)(r:bK SSr h A n ls)(hn:n<=1000000)(hl:LL n ls)
 (hK1:(∀ i,i<n->cV (ls i))->∀ b h',Own RQr h h' b n (fun i=>rv (ls i))->K (.tuple #[.slice (some ⟨b,0,none⟩) n n,.bool true]) h')
 (hK0:¬ (∀ i,i<n->cV (ls i))->∀ h',h.le h'->K (.tuple #[.slice none 0 0,.bool false]) h'):bC prog Fc #[.slice A n c] h K:=by
 refine A7n _ _ _ ?_
 unfold A9l
 refine K6 B2g (zx:=Ay) rfl (by omega) (by omega) (by omega) (by omega) ?_
 intro b J
 refine ⟨_,_,_,rfl,fun L z=>∃ k:Nat,k<=n/\L=[I k]/\(∀ i,i<k->cV (ls i))/\OwnK RQr h z b n k (fun i=>rv (ls i)),fun L _=>n-(iAt L 0).toNat,⟨0,by omega,rfl,fun i G=>by omega,OwnK.zero J⟩,?_⟩
 rintro t z ⟨k,V,M,f,g,o,Q,j,s,C,B,E⟩
 obtain rfl:=sI1 M
 refine B6 (fun p=>?_) (fun H=>?_)
 ·have d:k<n:=by omega
  obtain ⟨a,rfl,O⟩:=(r.mono I9 (B0 j s.le)).sat d
  refine ⟨a,rfl,by omega,by omega,_,O,?_⟩
  refine s.call (Yj (gl.mono j).tz (hl k d) ?_ ?_)
  ·intro q e w F u R D m
   refine ⟨_,_,_,_,_,_,_,_,_,rfl,_,rfl,by omega,by simpa using p,?_⟩
   refine OwnK.store K5 B2f (y:=w) j u m C B E d rfl (by show RQ F w (rv (ls k));rw [e,D8];exact R) ?_
   intro T S
   rw [wiS k (by omega)]
   refine ⟨⟨k+1,by omega,rfl,fun i G=>?_,S⟩,?_⟩
   ·by_cases N:i=k
    ·subst N;exact ⟨q,e⟩
    ·exact f i (by omega)
   ·simp only [Ec];omega
  ·intro x w F u _ D m
   exact ⟨_,_,_,_,_,_,_,_,_,rfl,hK0 (fun l=>x (l k d)) D (B0 j (B0 u m.le))⟩
 ·have:k=n:=by omega
  subst this
  exact hK1 f b z ⟨g,o,Q,j,s,C,B,E⟩
def Ig(gl:Gl h)(r:bK RQr h A n f)(hn:n<=1000000)(hs:∀ i,i<n->Sz m (f i))(hm:m<=40000000)
 (hK:∀ b h',Own SSr h h' b n (fun i=>H1 (f i))->K (.slice (some ⟨b,0,none⟩) n n) h'):bC prog Fb #[.slice A n c] h K:=by
 refine A7l _ _ _ ?_
 unfold A9j
 refine K6 Fz (zx:=([]:List UInt8)) rfl (by omega) (by omega) (by omega) (by omega) ?_
 intro b D
 refine ⟨_,_,_,rfl,fun L l=>∃ k:Nat,k<=n/\L=[I k]/\OwnK SSr h l b n k (fun i=>H1 (f i)),fun L _=>n-(iAt L 0).toNat,⟨0,by omega,rfl,OwnK.zero D⟩,?_⟩
 rintro t l ⟨k,O,E,g,o,G,e,s,q,p,u⟩
 obtain rfl:=sI1 E
 refine B6 (fun j=>?_) (fun C=>?_)
 ·have d:k<n:=by omega
  obtain ⟨a,w,rfl,J,F,B,z,H⟩:=(r.mono K5 e).qat d
  refine ⟨_,rfl,by omega,by omega,_,_,_,_,_,_,_,_,B9 s.le F,B9 s.le B,B9 s.le z,B9 s.le H,?_⟩
  refine s.call (T8 (gl.mono e).p10 J (hs k d) hm ?_)
  intro Q x
  refine ⟨_,rfl,_,rfl,by omega,by simpa using j,?_⟩
  refine OwnK.store I9 Ai (y:=H1 (f k)) e (B4 _) x q p u d rfl rfl ?_
  intro N M
  rw [wiS k (by omega)]
  exact ⟨⟨k+1,by omega,rfl,M⟩,by simp only [Ec];omega⟩
 ·have:k=n:=by omega
  subst this
  exact hK b l ⟨g,o,G,e,s,q,p,u⟩
def B3l(r:bK SSr h A n ls)(hn:n<=1000000)(hl:LL n ls)
 (hK1:(∀ i,i<n->cV (ls i))->∀ b h',Own NQr h h' b n (fun i=>rv (ls i))->K (.tuple #[.slice (some ⟨b,0,none⟩) n n,.bool true]) h')
 (hK0:¬ (∀ i,i<n->cV (ls i))->∀ h',h.le h'->K (.tuple #[.slice none 0 0,.bool false]) h'):bC prog A70 #[.slice A n c] h K:=by
 refine B9c _ _ _ ?_
 unfold C5i
 refine K6 A09 (zx:=Ay) rfl (by omega) (by omega) (by omega) (by omega) ?_
 intro b J
 refine ⟨_,_,_,rfl,fun L z=>∃ k:Nat,k<=n/\L=[I k]/\(∀ i,i<k->cV (ls i))/\OwnK NQr h z b n k (fun i=>rv (ls i)),fun L _=>n-(iAt L 0).toNat,⟨0,by omega,rfl,fun i G=>by omega,OwnK.zero J⟩,?_⟩
 rintro t z ⟨k,V,M,f,g,o,Q,l,s,C,B,E⟩
 obtain rfl:=sI1 M
 refine B6 (fun p=>?_) (fun H=>?_)
 ·have d:k<n:=by omega
  obtain ⟨a,rfl,O⟩:=(r.mono I9 (B0 l s.le)).sat d
  refine ⟨a,rfl,by omega,by omega,_,O,?_⟩
  refine s.call (B32 (hl k d) ?_ ?_)
  ·intro q e w F u R D m
   refine ⟨_,_,_,_,_,_,_,_,_,rfl,_,rfl,by omega,by simpa using p,?_⟩
   refine OwnK.store Q5 B02 (y:=w) l u m C B E d rfl (by show NQ F w (rv (ls k));rw [e,D8];exact R) ?_
   intro T S
   rw [wiS k (by omega)]
   refine ⟨⟨k+1,by omega,rfl,fun i G=>?_,S⟩,?_⟩
   ·by_cases N:i=k
    ·subst N;exact ⟨q,e⟩
    ·exact f i (by omega)
   ·simp only [Ec];omega
  ·intro x w F u D m
   exact ⟨_,_,_,_,_,_,_,_,_,rfl,hK0 (fun j=>x (j k d)) D (B0 l (B0 u m.le))⟩
 ·have:k=n:=by omega
  subst this
  exact hK1 f b z ⟨g,o,Q,l,s,C,B,E⟩
def Ck(r:bK NQr h A n f)(hn:n<=1000000)(hs:∀ i,i<n->Sz m (f i))(hm:m<=1000000000)
 (hK:∀ b h',Own SSr h h' b n (fun i=>H1 (f i))->K (.slice (some ⟨b,0,none⟩) n n) h'):bC prog Dm #[.slice A n c] h K:=by
 refine B62 _ _ _ ?_
 unfold C0o
 refine K6 Fz (zx:=([]:List UInt8)) rfl (by omega) (by omega) (by omega) (by omega) ?_
 intro b D
 refine ⟨_,_,_,rfl,fun L j=>∃ k:Nat,k<=n/\L=[I k]/\OwnK SSr h j b n k (fun i=>H1 (f i)),fun L _=>n-(iAt L 0).toNat,⟨0,by omega,rfl,OwnK.zero D⟩,?_⟩
 rintro t j ⟨k,O,E,g,o,G,l,s,q,p,u⟩
 obtain rfl:=sI1 E
 refine B6 (fun e=>?_) (fun C=>?_)
 ·have d:k<n:=by omega
  obtain ⟨a,w,rfl,J,F,B,z,H⟩:=(r.mono Q5 l).qat d
  refine ⟨_,rfl,by omega,by omega,_,_,_,_,_,_,_,_,B9 s.le F,B9 s.le B,B9 s.le z,B9 s.le H,?_⟩
  refine s.call (A32 J (hs k d) hm ?_)
  intro Q x
  refine ⟨_,rfl,_,rfl,by omega,by simpa using e,?_⟩
  refine OwnK.store I9 Ai (y:=H1 (f k)) l (B4 _) x q p u d rfl rfl ?_
  intro N M
  rw [wiS k (by omega)]
  exact ⟨⟨k+1,by omega,rfl,M⟩,by simp only [Ec];omega⟩
 ·have:k=n:=by omega
  subst this
  exact hK b j ⟨g,o,G,l,s,q,p,u⟩
def Bo(f:Nat->Rat):Nat->Nat
 | 0=>1
 | n+1=>eB (Bo f n) (f n).den
def A0s(f:Nat->Rat):∀ n,0<Bo f n:=by
 intro n
 induction n with
 | zero=>exact Nat.one_pos
 | succ n ih=>exact Nat.lcm_pos ih (f n).den_pos
def A0t(f:Nat->Rat):∀ n i,i<n->(f i).den∣Bo f n:=by
 intro n
 induction n with
 | zero=>intro i h;omega
 | succ n ih=>
  intro i a
  by_cases e:i=n
  ·subst e;exact Nat.dvd_lcm_right _ _
  ·exact Nat.dvd_trans (ih i (by omega)) (Nat.dvd_lcm_left _ _)
def ZB.lcm{k j:Nat}{x y:Nat}(hx:ZB k (x:Int))(hy:ZB j (y:Int)):ZB (k+j) ((eB x y:Nat):Int):=by
 have:=hx.mul hy
 unfold ZB at *
 rw [dH]
 rw [Int.natAbs_mul,dH,dH] at this
 refine dG ?_ this
 unfold eB
 exact Nat.div_le_self _ _
def Lu{f:Nat->Rat}{m:Nat}: ∀ n,(∀ i,i<n->Sz m (f i))->ZB (1+n*m) (Bo f n:Int):=by
 intro n
 induction n with
 | zero=>intro _;exact ZB.one (by omega)
 | succ n ih=>
  intro h
  have:=(ih fun i a=>h i (by omega)).lcm (h n (by omega)).den
  exact this.mono (by rw [aM,aQ];omega)
def Ef(gl:Gl h)(r:bK RQr h A n f)(hn:n<=1000000)(hs:∀ i,i<n->Sz m (f i))(hm:1+n*m+m<=6400000000)
 (hK:∀ s A' n' c' h',h.le h'->ZI h' s A' n' c' (Bo f n:Int)->K (.agg #[.bool s,.slice A' n' c']) h'):bC prog J3 #[.slice A n c] h K:=by
 refine Jr _ _ _ ?_
 unfold Dx
 refine Ek (by omega) (by omega) ?_
 intro s1 A1 n1 c1 y Q O
 refine ⟨_,_,_,_,rfl,fun L q=>∃ (k:Nat) (s:Bool) (B:Option aL) (p o:Nat),k<=n/\L=[I k,.bool s,.slice B p o]/\h.le q/\ZI q s B p o (Bo f k:Int),fun L _=>n-(iAt L 0).toNat,⟨0,_,_,_,_,by omega,rfl,Q,O⟩,?_⟩
 rintro t s B p o q ⟨k,C,B',j,g,hk,E,l,i⟩
 simp only [bD,cC,cJ,aY,true_and,and_true] at E
 obtain ⟨rfl,rfl,rfl,rfl,rfl⟩:=E
 have F:B5 ((k:Int)+1)=((k+1:Nat):Int):=by rw [B7]<;>omega
 refine B6 (fun V=>?_) (fun S=>?_)
 ·have u:k<n:=by omega
  obtain ⟨a,w,rfl,H,T,R,N,d3⟩:=(r.mono K5 l).qat u
  have W:1+k*m<=6400000000:=by
   have:k*m<=n*m:=aD _ (by omega)
   omega
  have d:1+k*m+m<=6400000000:=by
   have:k*m<=n*m:=aD _ (by omega)
   omega
  have M:=(Lu k fun i hi=>hs i (by omega)).mono (show 1+k*m<=1+k*m+m by omega)
  have D:=(hs k u).den.mono (show m<=1+k*m+m by omega)
  refine ⟨_,rfl,by omega,by omega,_,_,_,_,_,_,_,_,T,R,N,d3,?_⟩
  refine G0 H.den ⟨_,rfl,?_⟩
  have x:((if (f k).den=1 then 0 else ((f k).den:Int))=0)↔(f k).den=1:=by
   have:=(f k).den_pos
   split<;>omega
  have same:Bo f (k+1)=Bo f k->(∃ (k':Nat) (C:Bool) (B':Option aL) (j g:Nat),k'<=n/\[I (B5 ((k:Int)+1)),.bool s,.slice B p o]=[I k',.bool C,.slice B' j g]/\h.le q/\ZI q C B' j g (Bo f k':Int))/\n-(iAt [I (B5 ((k:Int)+1)),.bool s,.slice B p o] 0).toNat<n-(iAt [I (k:Int),.bool s,.slice B p o] 0).toNat:=by
   intro e
   rw [F]
   exact ⟨⟨k+1,_,_,_,_,by omega,rfl,l,by rw [e];exact i⟩,by simp only [Ec];omega⟩
  refine P6 (B6 (fun y=>?_) (fun y=>?_))
  ·have z:=x.1 y
   exact same (by rw [Bo,z];exact Nat.lcm_one_right _)
  ·have z:(if (f k).den=1 then 0 else ((f k).den:Int))=((f k).den:Int):=iN fun e=>y (x.2 e)
   have b:=H.den
   rw [z] at b
   refine A5r b i D d ⟨_,rfl,?_⟩
   refine P6 (B6 (fun G=>?_) (fun G=>?_))
   ·have Z:(f k).den=Bo f k:=by exact_mod_cast G
    exact same (by rw [Bo,Z];exact Nat.lcm_self _)
   ·refine B1q (gl.mono l).tz i b M D d ?_
    intro A' n' c' h' X J
    refine ⟨_,_,_,_,rfl,?_⟩
    rw [F]
    refine ⟨⟨k+1,_,_,_,_,by omega,rfl,B0 l X,?_⟩,by simp only [Ec];omega⟩
    have:Int.lcm (Bo f k:Int) ((f k).den:Int)=Bo f (k+1):=by simp [Int.lcm,Bo]
    rw [this] at J;exact J
 ·have:k=n:=by omega
  subst this
  exact hK _ _ _ _ q l i
def scl(q:Rat)(d:Int):Int:=q.num*d.tdiv q.den
def C1u(q:Rat):q*(q.den:Rat)=(q.num:Rat):=by
 have h:=Rat.num_divInt_den q
 rw [cQ] at h
 have a:((q.den:Int):Rat)≠0:=X8 (den_ne q)
 have e:((q.den:Int):Rat)=(q.den:Rat):=rfl
 rw [<- e]
 calc q*((q.den:Int):Rat)=(q.num:Rat)/((q.den:Int):Rat)*((q.den:Int):Rat):=by rw [h]
  _=q.num:=dF a
def B2t{q:Rat}{d:Int}(h:(q.den:Int)∣d):(scl q d:Rat)=q*d:=by
 obtain ⟨e,rfl⟩:=h
 unfold scl
 rw [dV _ (den_ne q),bJ,bJ]
 have b:q*(q.den:Rat)=(q.num:Rat):=C1u q
 have a:(((q.den:Nat):Int):Rat)=(q.den:Rat):=rfl
 rw [a,<- b,dT]
def B2s{q:Rat}{d:Int}{k:Nat}(hq:Sz m q)(hd:ZB k d):ZB (m+k) (scl q d):=hq.num.mul hd.tdiv
def Ln{s:Bool}{B:Option aL}{bn bc:Nat}{d:Int}(i:RQ h w q)(j:ZI h s B bn bc d)(hq:Sz m q)(hd:ZB m d)(hm:m<=6400000000)
 (hK:∀ s A' n' c' h',h.le h'->ZI h' s A' n' c' (scl q d)->K (.agg #[.bool s,.slice A' n' c']) h'):bC prog Ir #[w.v,.agg #[.bool s,.slice B bn bc]] h K:=by
 refine B1a _ _ _ _ _ _ _ _ _ _ _ _ ?_
 unfold B5x
 refine G0 i.den ⟨_,rfl,?_⟩
 have b:((if q.den=1 then 0 else (q.den:Int))=0)↔q.den=1:=by
  have:=q.den_pos
  split<;>omega
 refine B6 (fun f=>?_) (fun f=>?_)
 ·have c:=b.1 f
  refine L4 i.num j hq.num hd hm ?_
  intro t A' n' c' h' n p
  refine ⟨_,_,_,_,rfl,hK _ _ _ _ _ n ?_⟩
  have:scl q d=q.num*d:=by unfold scl;rw [c];simp
  rw [this];exact p
 ·have c:(if q.den=1 then 0 else (q.den:Int))=(q.den:Int):=iN fun e=>f (b.2 e)
  have a:=i.den
  rw [c] at a
  refine Q7 j a hd hq.den hm (den_ne q) ?_
  intro t A1 x c1 l g r
  refine ⟨_,_,_,_,rfl,g,?_⟩
  refine L4 (i.num.mono g) r hq.num hd.tdiv hm ?_
  intro z A2 u c2 y k o
  exact ⟨_,_,_,_,rfl,k,hK _ _ _ _ _ (B0 g k) o⟩
end
instance:Enc Int:=⟨⟨fun z=>[I z],1,fun _=>rfl,fun z v hv=>by rw [List.mem_singleton.1 hv];rfl⟩⟩
abbrev IIr:aG->Int->Int->Prop:=fun _ w z=>w=z
section
variable {α:Type} [E:Enc α]
def OwnSl(o:aG)(e:cF)(A:Option aL)(c:Nat)(xs:List α):Prop:=
 xs.length<=c/\((c=0/\A=none)\/∃ b arr,A=some ⟨b,0,none⟩/\o b=some (.cells (cT arr) e)/\arr.length=c*E.default.size/\arr.take (xs.length*E.default.size)=xs.flatMap enc)
def OwnSl.nil{o:aG}{e:cF}:OwnSl o e none 0 ([]:List α):=⟨aE _,.inl ⟨rfl,rfl⟩⟩
def OwnSl.keep{o o':aG}{e:cF}{A:Option aL}{c:Nat}{xs:List α}(w:OwnSl o e A c xs)(h:∀ b x,A=some ⟨b,0,none⟩->o b=some x->o' b=some x):OwnSl o' e A c xs:=by
 refine ⟨w.1,?_⟩
 rcases w.2 with g|⟨b,a,d,f,i,j⟩
 ·exact .inl g
 ·exact .inr ⟨b,a,d,h b _ d f,i,j⟩
def OwnSl.rowB{o:aG}{e:cF}{A:Option aL}{c:Nat}{xs:List α}(w:OwnSl o e A c xs)(hne:xs≠[]):∃ b,A=some ⟨b,0,none⟩/\RowB o b xs:=by
 rcases w.2 with f|⟨b,a,g,d,j,i⟩
 ·exfalso
  have:=w.1
  have:=f.1
  have:xs.length≠0:=fun h=>hne (bY h)
  omega
 ·exact ⟨b,g,e,a.drop (xs.length*E.default.size),by rw [d,<- i,List.take_append_drop]⟩
def OwnSl.slF{o h:aG}{e:cF}{A:Option aL}{c:Nat}{xs:List α}(w:OwnSl o e A c xs)(hl:o.le h):SlF h A xs:=by
 by_cases a:xs=[]
 ·rw [a];exact SlF.nil
 ·obtain ⟨b,rfl,r⟩:=w.rowB a
  exact r.slF hl
def OwnSl.priv{h g o:aG}{e:cF}{A:Option aL}{c:Nat}{xs:List α}(s:Sep h g o)(w:OwnSl o e A c xs):∃ gb,PrivF h gb e A c xs/\∀ k x,h k=some x->A≠some ⟨k,0,none⟩->gb k=some x:=by
 rcases w.2 with ⟨l,p⟩|⟨b,a,f,j,m,n⟩
 ·subst l
  have i:xs=[]:=bY (by have:=w.1;omega)
  subst i
  exact ⟨h,PrivF.nil h e A,fun k x e _=>e⟩
 ·refine ⟨h.without b,⟨K7 xs,w.1,.inr ⟨b,a,f,S5 _ _,(L3 (s.own b _ j)).symm,m,n⟩⟩,fun k x e d=>?_⟩
  unfold Heap.without
  rw [iN]
  ·exact e
  ·rintro rfl;exact d f
def OwnSl.push{P:cY}{t e ty:cF}{z:cG}{bytes:Nat}(st:SliceT P t e z E.default.size bytes){h g o:aG}{A:Option aL}{c:Nat}{xs:List α}(s:Sep h g o)(w:OwnSl o e A c xs){v:cG}{y:α}(hv:v.cells=(enc y).toArray)(hsz:E.default.size<=1000)
 (hb:(2*(xs.length+1)+192)*bytes<=281474976710656) (hn:xs.length+1<=9223372036854775807) {K1:aG->Prop} {K:Option aL->Nat->Nat->aG->Prop}
 (x0:∀ h1,h.le h1->K1 h1)
 (x:∀ A' c' h' g' o',g.le g'->Sep h' g' o'->OwnSl o' e A' c' (xs++[y])->(∀ k u,o k=some u->A≠some ⟨k,0,none⟩->o' k=some u/\A'≠some ⟨k,0,none⟩)->K A' (xs.length+1) c' h'):
 wpH P (cM t 1 #[(0,v)]) (fun v' hp=>∃ (B:Option aL) (m d:Nat),v'= .slice B m d/\K1 hp/\wpH P (bU #[t,t] ty #[.slice A xs.length c,.slice B m d]) (fun v1 hp1=>∃ (A':Option aL) (n' c':Nat),v1= .slice A' n' c'/\K A' n' c' hp1) hp) h:=by
 obtain ⟨gb,p,G⟩:=w.priv s
 refine Uw st (vs:=[v]) (fun u hu=>by rw [List.mem_singleton.1 hu,hv];simp [E.default.len]) rfl (by simp;omega) rfl ?_
 intro b i
 have O:[v].flatMap (fun v=>v.cells.toList)=[y].flatMap enc:=by simp [hv]
 rw [O]
 refine ⟨_,_,_,rfl,x0 _ (Heap.le_put _ i),?_⟩
 have p':PrivF (h.put b (.cells ([y].flatMap enc).toArray e)) (gb.put b (.cells ([y].flatMap enc).toArray e)) e A c xs:=Priv.put p i _
 refine Kr st p' (ys:=[y]) rfl (A7c e h b [y]) hb hn ?_
 intro A' c' h' g' hg hp
 refine ⟨_,_,_,rfl,?_⟩
 rw [aC]
 have H:∀ k u,h k=some u->A≠some ⟨k,0,none⟩->g' k=some u:=by
  intro k u a Q
  have f:k≠b:=by rintro rfl;rw [i] at a;cases a
  exact hg k u (by rw [B8 _ _ f];exact G k u a Q)
 have R:∀ k u,g k=some u->A≠some ⟨k,0,none⟩:=by
  intro k u a q
  rcases w.2 with ⟨_,V⟩|⟨j,n,l,r,_⟩
  ·rw [q] at V;cases V
  ·rw [q] at l
   simp only [aR,bH,and_true] at l
   subst l
   rw [s.dis k _ r] at a;cases a
 rcases hp.2.2 with ⟨aa,_⟩|⟨j,n,l,r,J,ha,ht⟩
 ·exfalso
  have:=hp.2.1
  rw [aC] at this
  simp at this
  omega
 ·subst l
  let o':aG:=fun k=>if k=j then some (.cells (cT n) e) else if A=some ⟨k,0,none⟩ then none else o k
  have Z:o' j=some (.cells (cT n) e):=by show (if j=j then _ else _)=_;rw [iP rfl]
  have S:∀ k,k≠j->A≠some ⟨k,0,none⟩->o' k=o k:=fun k h1 C=>by show (if k=j then _ else if _ then _ else _)=_;rw [iN h1,iN C]
  have T:∀ k,k≠j->A=some ⟨k,0,none⟩->o' k=none:=fun k h1 C=>by show (if k=j then _ else if _ then _ else _)=_;rw [iN h1,iP C]
  let g2:aG:=fun k=>match o' k with|some _=>none|none=>h' k
  have gs:∀ k u,o' k=some u->g2 k=none:=fun k u a=>by show (match o' k with|some _=>none|none=>h' k)=_;rw [a]
  have X:∀ k,o' k=none->g2 k=h' k:=fun k a=>by show (match o' k with|some _=>none|none=>h' k)=_;rw [a]
  have D:∀ k u,k≠j->g' k=some u->h' k=some u:=fun k u h1 a=>by rw [J,B8 _ _ h1];exact a
  have L:∀ k u,o k=some u->A≠some ⟨k,0,none⟩->k≠j:=by
   rintro k u a C rfl
   have:=H k u (s.own k u a) C
   rw [r] at this;cases this
  refine x _ c' h' g2 o' (fun k u a=>?_) ⟨fun k u a=>?_,fun k a=>(X k a).symm,gs⟩ ⟨hp.2.1,.inr ⟨j,n,rfl,Z,ha,ht⟩⟩ (fun k u a C=>?_)
  ·have N:o k=none:=by
    cases ho:o k with
    | none=>rfl
    | some y=>rw [s.dis k y ho] at a;cases a
   have q:=R k u a
   have M:=H k u (s.le k u a) q
   have F:k≠j:=by rintro rfl;rw [r] at M;cases M
   rw [X k (by rw [S k F q];exact N)]
   exact D k u F M
  ·by_cases f:k=j
   ·subst f
    rw [Z] at a;cases a
    rw [J,C2]
   ·by_cases q:A=some ⟨k,0,none⟩
    ·rw [T k f q] at a;cases a
    ·rw [S k f q] at a
     exact D k u f (H k u (s.own k u a) q)
  ·have f:=L k u a C
   refine ⟨by rw [S k f C];exact a,fun W=>f ?_⟩
   simp only [aR,bH,and_true] at W
   exact W.symm
end
structure Tb where
 bt:Nat
 bE:Nat
 bS:Nat
 rows:Nat
 cols:Nat
 cE:Nat
 cS:Nat
structure Tab (h g o:aG) (T:Tb) (M:Nat->Nat->Int) (S:Nat->Rat):Prop where
 sep:Sep h g o
 n1:T.bt≠T.bE
 n2:T.bt≠T.bS
 n3:T.bE≠T.bS
 head:∃ e,o T.bt=some (.cells #[I T.cols,.slice (some ⟨T.bE,0,none⟩) (T.rows*T.cols) T.cE,.slice (some ⟨T.bS,0,none⟩) T.rows T.cS] e)
 elems:∃ ws:List IV,RowB o T.bE ws/\ws.length=T.rows*T.cols/\∀ i j,i<T.rows->j<T.cols->∃ w,ws[i*T.cols+j]? = some w/\ZIr g w (M i j)
 scales:∃ ss:List QV,RowB o T.bS ss/\ss.length=T.rows/\Row RQr g ss T.rows S
 cE:T.rows*T.cols<=T.cE
 cS:T.rows<=T.cS
 small:T.rows<=10000/\T.cols<=10000
 pos:0<T.cols
def C6w(M:Nat->Nat->Int)(i j:Nat)(z:Int):Nat->Nat->Int:=fun a b=>if a=i/\b=j then z else M a b
def Bp{rows cols i j:Nat}(hi:i<rows)(hj:j<cols):i*cols+j<rows*cols:=by
 have:(i+1)*cols<=rows*cols:=aD _ hi
 rw [aM,aQ] at this
 omega
def C1z{cols i j i' j':Nat}(hj:j<cols)(hj':j'<cols)(h:i*cols+j=i'*cols+j'):i=i'/\j=j':=by
 have b:(i*cols+j)/cols=i:=by rw [aO,dM (by omega),bM hj,dB]
 have a:(i'*cols+j')/cols=i':=by rw [aO,dM (by omega),bM hj',dB]
 have:i=i':=by rw [<- b,<- a,h]
 subst this
 exact ⟨rfl,by omega⟩
section
variable {h g o:aG} {T:Tb} {M:Nat->Nat->Int} {S:Nat->Rat} {K:VP} {m:Nat}
def Tab.next(t:Tab h g o T M S){h' g':aG}(s:Sep h' g' o)(l:g.le g'):Tab h' g' o T M S:=by
 refine ⟨s,t.n1,t.n2,t.n3,t.head,?_,?_,t.cE,t.cS,t.small,t.pos⟩
 ·obtain ⟨k,r,a,b⟩:=t.elems
  refine ⟨k,r,a,fun i j c d=>?_⟩
  obtain ⟨w,e,f⟩:=b i j c d
  exact ⟨w,e,Kw _ _ _ _ l f⟩
 ·obtain ⟨m,r,a,b⟩:=t.scales
  exact ⟨m,r,a,b.mono K5 l⟩
def Tab.congr(t:Tab h g o T M S){M':Nat->Nat->Int}{S':Nat->Rat}(hM:∀ i j,i<T.rows->j<T.cols->M i j=M' i j)(hS:∀ i,i<T.rows->S i=S' i):Tab h g o T M' S':=by
 refine ⟨t.sep,t.n1,t.n2,t.n3,t.head,?_,?_,t.cE,t.cS,t.small,t.pos⟩
 ·obtain ⟨e,r,a,b⟩:=t.elems
  refine ⟨e,r,a,fun i j c d=>?_⟩
  rw [<- hM i j c d];exact b i j c d
 ·obtain ⟨f,r,a,b⟩:=t.scales
  exact ⟨f,r,a,b.congr hS⟩
def Tab.c0(t:Tab h g o T M S):h.cell? (aF ⟨T.bt,0,none⟩ 0)=some (I T.cols):=by
 obtain ⟨e,a⟩:=t.head
 refine t.sep.cell ?_
 rw [E5];unfold Heap.cell?;simp only [a];rfl
def Tab.c1(t:Tab h g o T M S):h.cell? (aF ⟨T.bt,0,none⟩ 1)=some (.slice (some ⟨T.bE,0,none⟩) (T.rows*T.cols) T.cE):=by
 obtain ⟨e,a⟩:=t.head
 refine t.sep.cell ?_
 rw [E5];unfold Heap.cell?;simp only [a];rfl
def Tab.c2(t:Tab h g o T M S):h.cell? (aF ⟨T.bt,0,none⟩ 2)=some (.slice (some ⟨T.bS,0,none⟩) T.rows T.cS):=by
 obtain ⟨e,a⟩:=t.head
 refine t.sep.cell ?_
 rw [E5];unfold Heap.cell?;simp only [a];rfl
def Tab.at(t:Tab h g o T M S){i j:Nat}(hi:i<T.rows)(hj:j<T.cols):∃ w:IV,ZIr g w (M i j)/\h.cell? (aF (aF ⟨T.bE,i*T.cols*2,none⟩ (j*2)) 0)=some (.bool w.s)/\h.cell? (aF (aF ⟨T.bE,i*T.cols*2,none⟩ (j*2)) 1)=some (.slice w.A w.n w.c):=by
 obtain ⟨k,r,m,l⟩:=t.elems
 obtain ⟨w,e,f⟩:=l i j hi hj
 have d:=Bp hi hj
 have a:k[i*T.cols+j]=w:=by
  rw [aI (by omega)] at e
  cases e;rfl
 have b:i*T.cols*2+j*2=(i*T.cols+j)*2:=by rw [aM]
 refine ⟨w,f,t.sep.cell ?_,t.sep.cell ?_⟩
 ·rw [E5,E5,b]
  exact r.cell (i:=i*T.cols+j) (by omega) (j:=0) (v:=.bool w.s) (by rw [a];rfl)
 ·rw [E5,E5,b]
  exact r.cell (i:=i*T.cols+j) (by omega) (j:=1) (v:=.slice w.A w.n w.c) (by rw [a];rfl)
def Tab.ato(t:Tab h g o T M S){i j:Nat}(hi:i<T.rows)(hj:j<T.cols):∃ w:IV,ZIr g w (M i j)/\o.cell? (aF (aF ⟨T.bE,i*T.cols*2,none⟩ (j*2)) 0)=some (.bool w.s)/\o.cell? (aF (aF ⟨T.bE,i*T.cols*2,none⟩ (j*2)) 1)=some (.slice w.A w.n w.c):=by
 obtain ⟨k,r,m,l⟩:=t.elems
 obtain ⟨w,e,f⟩:=l i j hi hj
 have d:=Bp hi hj
 have a:k[i*T.cols+j]=w:=by
  rw [aI (by omega)] at e
  cases e;rfl
 have b:i*T.cols*2+j*2=(i*T.cols+j)*2:=by rw [aM]
 refine ⟨w,f,?_,?_⟩
 ·rw [E5,E5,b]
  exact r.cell (i:=i*T.cols+j) (by omega) (j:=0) (v:=.bool w.s) (by rw [a];rfl)
 ·rw [E5,E5,b]
  exact r.cell (i:=i*T.cols+j) (by omega) (j:=1) (v:=.slice w.A w.n w.c) (by rw [a];rfl)
def Sep.le_le{h' g':aG}(s:Sep h g o)(s':Sep h' g' o)(l:g.le g'):h.le h':=fun k x e=>by
 cases ho:o k with
 | some y=>rw [s.own k y ho] at e;rw [s'.own k y ho];exact e
 | none=>rw [s.rest k ho] at e;rw [s'.rest k ho];exact l k x e
def Tab.sat(t:Tab h g o T M S){i:Nat}(hi:i<T.rows):∃ w:QV,RQ g w (S i)/\h.cell? (aF (aF ⟨T.bS,0,none⟩ (i*4)) 0)=some (.bool w.s)/\h.cell? (aF (aF ⟨T.bS,0,none⟩ (i*4)) 1)=some (.slice w.A w.n w.c)/\h.cell? (aF (aF ⟨T.bS,0,none⟩ (i*4)) 2)=some (.bool w.s2)/\h.cell? (aF (aF ⟨T.bS,0,none⟩ (i*4)) 3)=some (.slice w.A2 w.n2 w.c2):=by
 obtain ⟨f,r,m,l⟩:=t.scales
 obtain ⟨w,e,b⟩:=l i hi
 have d:f[i]=w:=by
  rw [aI (by omega)] at e
  cases e;rfl
 have cell:∀ k v,(enc w)[k]? = some v->h.cell? (aF (aF ⟨T.bS,0,none⟩ (i*4)) k)=some v:=by
  intro k v a
  refine t.sep.cell ?_
  rw [E5,E5,aN]
  exact r.cell (i:=i) (by omega) (j:=k) (by rw [d];exact a)
 exact ⟨w,b,cell 0 _ rfl,cell 1 _ rfl,cell 2 _ rfl,cell 3 _ rfl⟩
def Tab.store(t:Tab h g o T M S){i j:Nat}(hi:i<T.rows)(hj:j<T.cols){w:IV}{z:Int}(hz:ZIr g w z){K:Unit->aG->Prop}
 (x:∀ h' o',Tab h' g o' T (C6w M i j z) S->(∀ k,k≠T.bE->o' k=o k)->K () h'):wpH prog (aX Fu (.pointer (some (aF ⟨T.bE,i*T.cols*2,none⟩ (j*2)))) w.v) K h:=by
 obtain ⟨L,r,F,q⟩:=t.elems
 have C:=Bp hi hj
 have J:i*T.cols*2+j*2=(i*T.cols+j)*2:=by rw [aM]
 rw [E5,J]
 refine Sep.store (E:=inferInstanceAs (Enc IV)) A08 (v:=w.v) (y:=w) rfl t.sep r (i:=i*T.cols+j) (by omega) rfl ?_
 intro h' o' N f p A
 refine x h' o' ⟨p,t.n1,t.n2,t.n3,?_,⟨_,A,by simpa using F,fun a b l m=>?_⟩,?_,t.cE,t.cS,t.small,t.pos⟩ (fun k B=>by rw [f,B8 _ _ B])
 ·obtain ⟨e,G⟩:=t.head
  exact ⟨e,by rw [f,B8 _ _ t.n1];exact G⟩
 ·unfold C6w
  by_cases e:a=i/\b=j
  ·obtain ⟨rfl,rfl⟩:=e
   exact ⟨w,by rw [bZ (by omega)],by rw [iP ⟨rfl,rfl⟩];exact hz⟩
  ·obtain ⟨u,n,s⟩:=q a b l m
   refine ⟨u,?_,by rw [iN e];exact s⟩
   rw [bX (fun x=>e (by have:=C1z hj m x;exact ⟨this.1.symm,this.2.symm⟩))]
   exact n
 ·obtain ⟨D,H,d,c⟩:=t.scales
  exact ⟨D,by rw [f];exact H.other t.n3.symm _,d,c⟩
def Tab.sstore(t:Tab h g o T M S){i:Nat}(hi:i<T.rows){w:QV}{q:Rat}(hz:RQ g w q){K:Unit->aG->Prop}
 (x:∀ h' o',Tab h' g o' T M (fun a=>if a=i then q else S a)->(∀ k,k≠T.bS->o' k=o k)->K () h'):wpH prog (aX K0 (.pointer (some (aF ⟨T.bS,0,none⟩ (i*4)))) w.v) K h:=by
 obtain ⟨A,r,j,s⟩:=t.scales
 rw [E5,aN]
 refine Sep.store (E:=inferInstanceAs (Enc QV)) Tc (v:=w.v) (y:=w) rfl t.sep r (i:=i) (by omega) rfl ?_
 intro h' o' z d p u
 refine x h' o' ⟨p,t.n1,t.n2,t.n3,?_,?_,⟨_,u,by simpa using j,Row.upd s (by omega) hz⟩,t.cE,t.cS,t.small,t.pos⟩ (fun k f=>by rw [d,B8 _ _ f])
 ·obtain ⟨e,m⟩:=t.head
  exact ⟨e,by rw [d,B8 _ _ t.n2];exact m⟩
 ·obtain ⟨l,n,b,c⟩:=t.elems
  exact ⟨l,by rw [d];exact n.other t.n3 _,b,c⟩
def Z6{n:Nat}(h:n<=9223372036854775807):B5 (n:Int)=(n:Int):=B7 (by omega) (by omega)
def Gf(t:Tab h g o T M S){i:Nat}(hi:i<T.rows)(hK:K (.slice (some ⟨T.bE,i*T.cols*2,none⟩) T.cols (T.cE-i*T.cols)) h):bC prog Oy #[.pointer (some ⟨T.bt,0,none⟩),I (i:Int)] h K:=by
 refine C3j _ _ ?_
 unfold C83
 have a:=t.small
 have f:=t.pos
 have j:(i+1)*T.cols<=T.rows*T.cols:=aD _ hi
 have k:T.rows*T.cols<=10000*10000:=bI a.1 a.2
 have l:=t.cE
 have b:(i+1)*T.cols=i*T.cols+T.cols:=by rw [aM,aQ]
 have c:B5 ((i:Int)*(T.cols:Int))=((i*T.cols:Nat):Int):=by rw [<- bF];exact Z6 (by omega)
 have d:B5 ((i:Int)+1)=((i+1:Nat):Int):=B7 (by omega) (by omega)
 have e:B5 (B5 ((i:Int)+1)*(T.cols:Int))=(((i+1)*T.cols:Nat):Int):=by rw [d,<- bF];exact Z6 (by omega)
 refine ⟨_,rfl,_,_,_,t.c1,_,rfl,_,t.c0,_,rfl,_,t.c0,?_⟩
 rw [c,e]
 refine ⟨⟨by omega,by omega⟩,⟨by omega,by simp only [aH];omega⟩,?_⟩
 simp only [aH]
 rw [A4k (by omega),E5,aN,b,cO]
 exact hK
def A49(t:Tab h g o T M S){start col:Nat}(hs:start<=T.rows)(hc:col<T.cols)
 (hK1:fnd (fun i=>decide (M i col≠0)) (T.rows-start) start<T.rows->K (.tuple #[I ((fnd (fun i=>decide (M i col≠0)) (T.rows-start) start:Nat):Int),.bool true]) h)
 (hK0:fnd (fun i=>decide (M i col≠0)) (T.rows-start) start=T.rows->K (.tuple #[I 0,.bool false]) h):bC prog A1n #[.pointer (some ⟨T.bt,0,none⟩),I (start:Int),I (col:Int)] h K:=by
 refine B9m _ _ _ ?_
 unfold C5s
 refine ⟨fun L f=>∃ k:Nat,k<=T.rows/\L=[I k]/\f=h/\start<=k/\∀ j,start<=j->j<k->decide (M j col≠0)=false,fun L _=>T.rows-(iAt L 0).toNat,⟨start,hs,rfl,rfl,aE _,fun j b l=>by omega⟩,?_⟩
 rintro i f ⟨k,y,r,rfl,d,c⟩
 obtain rfl:=sI1 r
 refine ⟨_,rfl,_,_,_,t.c2,B6 (fun m=>?_) (fun p=>?_)⟩
 ·have a:k<T.rows:=by omega
  refine Gf t a ⟨_,_,_,rfl,_,rfl,by omega,by omega,?_⟩
  obtain ⟨w,s,u,n⟩:=t.at a hc
  refine ⟨_,_,_,_,u,n,G0 (s.mono t.sep.le) ⟨_,rfl,P6 (B6 (fun e=>?_) (fun e=>?_))⟩⟩
  ·rw [show B5 ((k:Int)+1)=((k+1:Nat):Int) by have:=t.small;rw [B7]<;>omega]
   refine ⟨⟨k+1,by omega,rfl,rfl,by omega,fun j b l=>?_⟩,by simp only [Ec];omega⟩
   by_cases q:j=k
   ·subst q;simp [e]
   ·exact c j b (by omega)
  ·have:fnd (fun i=>decide (M i col≠0)) (T.rows-start) start=k:=B44 _ d (by omega) c (fun _=>by simpa using e)
   rw [this] at hK1
   exact hK1 a
 ·have:fnd (fun i=>decide (M i col≠0)) (T.rows-start) start=T.rows:=B44 _ hs (by omega) (fun j b l=>c j b (by omega)) (fun x=>by omega)
  exact hK0 this
def B2i(t:Tab h g o T M S){i k:Nat}(hi:i<T.rows)(hk:k<T.rows)(hik:i≠k)
 (hK:∀ h' o',Tab h' g o' T (fun a=>M (xch i k a)) (fun a=>S (xch i k a))->(∀ b,b≠T.bE->b≠T.bS->o' b=o b)->K (.tuple #[]) h'):bC prog A74 #[.pointer (some ⟨T.bt,0,none⟩),I (i:Int),I (k:Int)] h K:=by
 refine B9l _ _ _ ?_
 unfold C5r
 refine Gf t hi ⟨_,_,_,rfl,Gf t hk ⟨_,_,_,rfl,?_⟩⟩
 refine ⟨fun L J=>∃ (c:Nat) (r:aG),c<=T.cols/\L=[I c]/\Tab J g r T (fun a b=>if b<c then M (xch i k a) b else M a b) S/\∀ b,b≠T.bE->r b=o b,fun L _=>T.cols-(iAt L 0).toNat,⟨0,o,by omega,rfl,t.congr (fun a b _ _=>by rw [iN (by omega)]) (fun _ _=>rfl),fun _ _=>rfl⟩,?_⟩
 rintro z J ⟨c,r,hc,R,d,n⟩
 obtain rfl:=sI1 R
 refine B6 (fun V=>?_) (fun Q=>?_)
 ·have e:c<T.cols:=by omega
  obtain ⟨D,q,B,y⟩:=d.at hk e
  obtain ⟨x,p,u,s⟩:=d.at hi e
  rw [iN (aS c)] at q p
  refine ⟨_,rfl,by omega,by omega,_,_,_,_,B,y,_,rfl,by omega,by omega,_,_,_,_,u,s,_,rfl,by omega,by omega,?_⟩
  refine d.store hi e (w:=D) q ?_
  intro X W F j
  refine ⟨_,rfl,by omega,by omega,?_⟩
  refine F.store hk e (w:=x) p ?_
  intro H C G f
  rw [show B5 ((c:Int)+1)=((c+1:Nat):Int) by have:=t.small;rw [B7]<;>omega]
  refine ⟨⟨c+1,C,by omega,rfl,G.congr (fun a b _ _=>?_) (fun _ _=>rfl),fun b m=>by rw [f b m,j b m,n b m]⟩,by simp only [Ec];omega⟩
  show (if a=k/\b=c then M i c else if a=i/\b=c then M k c else if b<c then M (xch i k a) b else M a b)=if b<c+1 then M (xch i k a) b else M a b
  unfold xch
  grind
 ·have E:c=T.cols:=by omega
  subst E
  obtain ⟨D,q,B,y,O,d3⟩:=d.sat hk
  obtain ⟨x,p,u,s,Z,N⟩:=d.sat hi
  refine ⟨_,rfl,_,_,_,d.c2,_,rfl,_,_,_,d.c2,_,rfl,_,_,_,d.c2,_,rfl,by omega,by omega,_,_,_,_,_,_,_,_,B,y,O,d3,_,rfl,_,_,_,d.c2,_,rfl,by omega,by omega,_,_,_,_,_,_,_,_,u,s,Z,N,_,rfl,by omega,by omega,?_⟩
  refine d.sstore hi (w:=D) q ?_
  intro X W F j
  refine ⟨_,rfl,by omega,by omega,?_⟩
  refine F.sstore hk (w:=x) p ?_
  intro H C G f
  refine hK H C (G.congr (fun a b _ m=>by rw [iP m]) (fun a _=>?_)) (fun b A l=>by rw [f b l,j b l,n b A])
  show (if a=k then S i else if a=i then S k else S a)=S (xch i k a)
  unfold xch
  grind
end
def A79{P:cY}{t:cF}{v:cG}{K:VP}{h:aG}(x:∀ b,h b=none->K (.pointer (some ⟨b,0,none⟩)) (h.put b (.cells v.cells t))):wpH P (Instr.box t v) K h:=by
 unfold Instr.box newVar
 simp only [C6,P7,G1]
 exact x
def B3a{m k:Nat}(hm:1<=m)(hk:k<4611686018427387904):(k:Int)*2^(2*m)<b64^m:=by
 have e:b64^m=(2:Int)^(2*m)*2^(62*m):=by
  have:b64=(2:Int)^64:=by decide
  rw [this,<- Int.pow_mul,<- Int.pow_add]
  congr 1;omega
 have b:(2:Int)^62<=2^(62*m):=D0 (by decide) (by omega)
 have a:(k:Int)<2^62:=by
  have:(2:Int)^62=4611686018427387904:=by decide
  rw [this];omega
 have c:(0:Int)<2^(2*m):=Int.pow_pos (by decide)
 rw [e,Int.mul_comm]
 exact Int.mul_lt_mul_of_pos_left (Int.lt_of_lt_of_le a b) c
def A6i{m:Nat}{x y:Int}(hx:ZB m x)(hy:ZB m y):((x*y).natAbs:Int)<=2^(2*m):=by
 have:=hx.mul hy
 unfold ZB at this
 have e:m+m=2*m:=by omega
 rw [e] at this
 have:((x*y).natAbs:Int)<((2^(2*m):Nat):Int):=by omega
 rw [Int.natCast_pow] at this
 exact Int.le_of_lt this
section
variable {h g o:aG} {T:Tb} {M:Nat->Nat->Int} {S:Nat->Rat} {K:VP} {m:Nat}
def A8a:(prog.info? Lk).map (·.zero)=some (some (.agg #[.slice none 0 0,.slice none 0 0])):=by kernel_rfl
def B0v(t:Tab h g o T M S){i p c:Nat}{wb:IV}{d:Int}(hi:i<T.rows)(hp':p<T.rows)(hip:i≠p)(hc:c<T.cols)(ib:ZIr g wb d)(hd:d≠0)(hm1:1<=m)(hm:2*m+1<=100000000)(hMi:∀ b,b<T.cols->ZB m (M i b))(hMp:∀ b,b<T.cols->ZB m (M p b))(hdb:ZB m d)
 (hK:∀ h' g' o',g.le g'->Tab h' g' o' T (fun a b=>if a=i then (M p c*M i b-M i c*M p b).tdiv d else M a b) S->(∀ b,b≠T.bE->o' b=o b)->K (.tuple #[]) h'):bC prog A1o #[.pointer (some ⟨T.bt,0,none⟩),I (i:Int),I (p:Int),I (c:Int),wb.v] h K:=by
 refine B6u _ _ _ _ _ _ _ _ ?_
 unfold C14
 refine Gf t hi ⟨_,_,_,rfl,Gf t hp' ⟨_,_,_,rfl,?_⟩⟩
 obtain ⟨wf,zf,f0,f1⟩:=t.at hi hc
 refine ⟨_,rfl,by omega,by omega,_,_,_,_,f0,f1,?_⟩
 refine ⟨fun L W=>∃ (k:Nat) (j q:aG),k<=T.cols/\L=[I k]/\g.le j/\Tab W j q T (fun a b=>if a=i/\b<k then (M p c*M i b-M i c*M p b).tdiv d else M a b) S/\∀ b,b≠T.bE->q b=o b,fun L _=>T.cols-(iAt L 0).toNat,⟨0,g,o,by omega,rfl,B4 _,t.congr (fun a b _ _=>by rw [iN (by omega)]) (fun _ _=>rfl),fun _ _=>rfl⟩,?_⟩
 rintro z hq ⟨k,j,q,hk,eL,J,l,D⟩
 obtain rfl:=sI1 eL
 have ew:B5 ((k:Int)+1)=((k+1:Nat):Int):=by have:=t.small;rw [B7]<;>omega
 refine B6 (fun af=>?_) (fun ae=>?_)
 ·have f:k<T.cols:=by omega
  obtain ⟨w1,V,d0,d1⟩:=l.at hi f
  rw [iN (by omega)] at V
  have same:(M p c*M i k-M i c*M p k).tdiv d=M i k->(∃ (k':Nat) (j q:aG),k'<=T.cols/\[I (B5 ((k:Int)+1))]=[I k']/\g.le j/\Tab hq j q T (fun a b=>if a=i/\b<k' then (M p c*M i b-M i c*M p b).tdiv d else M a b) S/\∀ b,b≠T.bE->q b=o b)/\T.cols-(iAt [I (B5 ((k:Int)+1))] 0).toNat<T.cols-(iAt [I (k:Int)] 0).toNat:=by
   intro e
   rw [ew]
   refine ⟨⟨k+1,j,q,by omega,rfl,J,l.congr (fun a b _ _=>?_) (fun _ _=>rfl),D⟩,by simp only [Ec];omega⟩
   by_cases r:a=i/\b<k
   ·rw [iP r,iP ⟨r.1,by omega⟩]
   ·rw [iN r]
    by_cases h2:a=i/\b<k+1
    ·obtain ⟨rfl,h3⟩:=h2
     have:b=k:=by omega
     subst this
     rw [iP ⟨rfl,by omega⟩,e]
    ·rw [iN h2]
  refine ⟨_,rfl,by omega,by omega,_,_,_,_,d0,d1,fun L W=>W=hq,?_,?_⟩
  ·refine G0 (V.mono l.sep.le) ⟨_,rfl,B6 (fun e1=>?_) (fun _=>rfl)⟩
   refine G0 (zf.mono (B0 J l.sep.le)) ⟨_,rfl,B6 (fun e2=>same (by rw [e1,e2];simp)) (fun _=>?_)⟩
   obtain ⟨w2,H,c0,c1⟩:=l.at hp' f
   rw [iN (by omega)] at H
   refine ⟨_,rfl,by omega,by omega,_,_,_,_,c0,c1,G0 (H.mono l.sep.le) ⟨_,rfl,B6 (fun e3=>same (by rw [e1,e3];simp)) (fun _=>rfl)⟩⟩
  ·rintro W rfl
   refine Dv A8a ?_
   intro bs B
   have ac:j bs=none:=by
    cases hx:j bs with
    | none=>rfl
    | some y=>rw [l.sep.le _ _ hx] at B;cases B
   have X:=l.sep.vis B (.cells #[.slice none 0 0,.slice none 0 0] Lk)
   have Z0:SumS (j.put bs (.cells #[.slice none 0 0,.slice none 0 0] Lk)) j bs Lk 200000001 0 0:=SumS.zero ac
   obtain ⟨w3,z3,a0,a1⟩:=l.ato hp' hc
   obtain ⟨w2,H,c0,c1⟩:=l.ato hp' f
   rw [iN (by omega)] at H z3
   have R:∀ {gg:aG} {w:IV} {x:Int},ZIr gg w x->ZB m x->w.n<=100000000:=fun i b=>ZI.len i b (by omega)
   have F:=hMp c hc
   have E:=hMi k f
   have s:=hMi c hc
   have G:=hMp k f
   have q1:=A6i F E
   have q2:=A6i s G
   have q0:=B3a (m:=m) (k:=2) hm1 (by omega)
   have l3:=R z3 F
   have l1:=R V E
   have lf:=R zf s
   have l2:=R H G
   refine ⟨_,rfl,_,rfl,by omega,by omega,_,_,_,_,X.cell a0,X.cell a1,?_⟩
   refine X.call (Bc Z0 z3 V (by omega) (by omega) (N1:=m) (by omega) (by omega) ?_)
   intro G3 g3 C Z3 H3 s3
   refine ⟨rfl,_,rfl,by omega,by omega,_,_,_,_,s3.cell c0,s3.cell c1,?_⟩
   refine s3.call (Si Z3 (zf.mono (B0 J C)) (H.mono C) (by omega) (by omega) (N1:=m) (by omega) (by omega) ?_)
   intro G4 g4 Z Z4 H4 s4
   refine ⟨rfl,s4.call (Np Z4 (by omega) ?_)⟩
   intro sv Av nv cv G5 O z5 H5 s5
   rw [Int.zero_add] at z5
   refine ⟨_,_,_,_,rfl,s4.le_le s5 O,?_⟩
   have u:j.le G5:=B0 C (B0 Z (B0 Z4.le O))
   have bz:ZB (2*m+1) (M p c*M i k-M i c*M p k):=((F.mul E).sub (s.mul G)).mono (by omega)
   refine s5.call (Q7 z5 (ib.mono (B0 J u)) bz (hdb.mono (by omega)) (by omega) hd ?_)
   intro s6 A6 n6 c6 G6 A z6 H6 N
   refine ⟨_,_,_,_,rfl,s5.le_le N A,_,rfl,by omega,by omega,?_⟩
   have t6:=l.next N (B0 u A)
   refine t6.store hi f (w:=⟨s6,A6,n6,c6⟩) z6 ?_
   intro H7 o7 t7 aa
   rw [ew]
   refine ⟨⟨k+1,G6,o7,by omega,rfl,B0 J (B0 u A),t7.congr (fun a b _ _=>?_) (fun _ _=>rfl),fun b Q=>by rw [aa b Q,D b Q]⟩,by simp only [Ec];omega⟩
   show (if a=i/\b=k then (M p c*M i k-M i c*M p k).tdiv d else if a=i/\b<k then (M p c*M i b-M i c*M p b).tdiv d else M a b)=_
   grind
 ·have ad:k=T.cols:=by omega
  subst ad
  exact hK hq j q J (l.congr (fun a b _ Q=>by
   by_cases r:a=i
   ·rw [iP ⟨r,Q⟩,iP r]
   ·rw [iN (fun x=>r x.1),iN r]) (fun _ _=>rfl)) D
def B7n(n:Nat)(s:PS)(h:s.cs=[]):∀ c,(Cw n s c).cs.length<=c:=by
 intro c
 induction c with
 | zero=>show s.cs.length<=0;rw [h];exact aE _
 | succ c ih=>
  show (Ih n c (Cw n s c)).cs.length<=c+1
  unfold Ih
  split
  ·show ((Cw n s c).cs++[c]).length<=c+1
   rw [aC]
   exact Nat.succ_le_succ ih
  ·omega
def A3f(n:Nat)(s:PS)(h:s.last≠0)(hs:s.sgn=1\/s.sgn= -1)(hl:s.cs.length<=n):∀ c,(Cw n s c).last≠0/\((Cw n s c).sgn=1\/(Cw n s c).sgn= -1)/\(Cw n s c).cs.length<=n:=by
 intro c
 induction c with
 | zero=>exact ⟨h,hs,hl⟩
 | succ c ih=>
  obtain ⟨e,d,b⟩:=ih
  show (Ih n c (Cw n s c)).last≠0/\((Ih n c (Cw n s c)).sgn=1\/(Ih n c (Cw n s c)).sgn= -1)/\(Ih n c (Cw n s c)).cs.length<=n
  have f:=A6c n c (Cw n s c) b
  unfold Ih
  by_cases a:Uh n c (Cw n s c)<n
  ·rw [iP a]
   have:=A0x (fun i=>decide ((Cw n s c).M i c≠0)) (n-(Cw n s c).cs.length) (Cw n s c).cs.length (by unfold Uh at a;omega)
   refine ⟨by simpa [Uh] using this,?_,?_⟩
   ·show (if Uh n c (Cw n s c)=(Cw n s c).cs.length then (Cw n s c).sgn else -(Cw n s c).sgn)=1\/(if Uh n c (Cw n s c)=(Cw n s c).cs.length then (Cw n s c).sgn else -(Cw n s c).sgn)= -1
    split<;>omega
   ·show ((Cw n s c).cs++[c]).length<=n
    rw [aC]
    simp only [cL,dN]
    omega
  ·rw [iN a];exact ⟨e,d,b⟩
def N4{α:Type}[E:Enc α]{P:cY}{t e ty:cF}{z:cG}{bytes:Nat}(st:SliceT P t e z E.default.size bytes){h g o:aG}{A:Option aL}{c n:Nat}{xs:List α}(s:Sep h g o)(w:OwnSl o e A c xs)(hxn:n=xs.length){v:cG}{y:α}(hv:v.cells=(enc y).toArray)(hsz:E.default.size<=1000)
 (hb:(2*(xs.length+1)+192)*bytes<=281474976710656) (hn:xs.length+1<=9223372036854775807) {K:Option aL->Nat->Nat->aG->Prop}
 (x:∀ A' c' h' g' o',g.le g'->Sep h' g' o'->OwnSl o' e A' c' (xs++[y])->(∀ k u,o k=some u->A≠some ⟨k,0,none⟩->o' k=some u/\A'≠some ⟨k,0,none⟩)->K A' (xs.length+1) c' h'):
 wpH P (cM t 1 #[(0,v)]) (fun v' hp=>∃ (B:Option aL) (m d:Nat),v'= .slice B m d/\wpH P (bU #[t,t] ty #[.slice A n c,.slice B m d]) (fun v1 hp1=>∃ (A':Option aL) (n' c':Nat),v1= .slice A' n' c'/\K A' n' c' hp1) hp) h:=by
 subst hxn
 refine Jv _ (OwnSl.push (ty:=ty) st s w hv hsz hb hn (K1:=fun _=>True) (K:=K) (fun _ _=>trivial) x) ?_
 rintro v' hp ⟨B,m,d,e,_,a⟩
 exact ⟨B,m,d,e,a⟩
def Tab.own(t:Tab h g o T M S):(∃ x,o T.bt=some x)/\(∃ x,o T.bE=some x)/\∃ x,o T.bS=some x:=by
 obtain ⟨e,a⟩:=t.head
 obtain ⟨d,⟨f,k,b⟩,_⟩:=t.elems
 obtain ⟨i,⟨j,l,c⟩,_⟩:=t.scales
 exact ⟨⟨_,a⟩,⟨_,b⟩,⟨_,c⟩⟩
def Tab.keep(t:Tab h g o T M S){h' g' o':aG}(s:Sep h' g' o')(l:g.le g')(hk:∀ k x,o k=some x->k=T.bt\/k=T.bE\/k=T.bS->o' k=some x):Tab h' g' o' T M S:=by
 refine ⟨s,t.n1,t.n2,t.n3,?_,?_,?_,t.cE,t.cS,t.small,t.pos⟩
 ·obtain ⟨e,p⟩:=t.head
  exact ⟨e,hk _ _ p (.inl rfl)⟩
 ·obtain ⟨n,⟨e,ex,b⟩,a,c⟩:=t.elems
  refine ⟨n,⟨e,ex,hk _ _ b (.inr (.inl rfl))⟩,a,fun i j d f=>?_⟩
  obtain ⟨w,e,m⟩:=c i j d f
  exact ⟨w,e,Kw _ _ _ _ l m⟩
 ·obtain ⟨q,⟨e,ex,b⟩,a,c⟩:=t.scales
  exact ⟨q,⟨e,ex,hk _ _ b (.inr (.inr rfl))⟩,a,c.mono K5 l⟩
abbrev zs(l:List Nat):List Int:=l.map fun (n:Nat)=>(n:Int)
def C3l(T:Tb)(A:Option aL):Prop:=A≠some ⟨T.bt,0,none⟩/\A≠some ⟨T.bE,0,none⟩/\A≠some ⟨T.bS,0,none⟩
def A3m(t:Tab h g o T M S){c l nq:Nat}(hc:c<=T.cols)(hm1:1<=m)(hnq:∀ k,k<=c->(Cw T.rows ⟨M,S,[],1,1⟩ k).cs.length<=nq)(hm:2*(3^nq*m)+1<=100000000)(hz:ZbP T.rows T.cols m l ⟨M,S,[],1,1⟩)
 (hK:∀ h' g' o' A cap w,g.le g'->Tab h' g' o' T (Cw T.rows ⟨M,S,[],1,1⟩ c).M (Cw T.rows ⟨M,S,[],1,1⟩ c).S->OwnSl o' F2 A cap (zs (Cw T.rows ⟨M,S,[],1,1⟩ c).cs)->C3l T A->(∀ k x,o k=some x->k≠T.bE->k≠T.bS->o' k=some x/\A≠some ⟨k,0,none⟩)->ZIr g' w (Cw T.rows ⟨M,S,[],1,1⟩ c).last->
  K (.tuple #[.slice A (Cw T.rows ⟨M,S,[],1,1⟩ c).cs.length cap,w.v,I (Cw T.rows ⟨M,S,[],1,1⟩ c).sgn]) h'):bC prog Oz #[.pointer (some ⟨T.bt,0,none⟩),I (c:Int)] h K:=by
 refine B1m _ _ ?_
 unfold B6q
 have a4:=t.small
 refine t.sep.call (Ek (by omega) (by omega) ?_)
 intro s1 A1 n1 c1 g1 l1 i1 h1 ak
 have t1:=t.next ak l1
 refine ⟨_,_,_,_,rfl,fun L hp=>∃ (k:Nat) (g' o':aG) (A:Option aL) (cap:Nat) (w:IV),k<=c/\L=[.slice A (Cw T.rows ⟨M,S,[],1,1⟩ k).cs.length cap,I (Cw T.rows ⟨M,S,[],1,1⟩ k).sgn,I k,.bool w.s,.slice w.A w.n w.c]/\g.le g'/\Tab hp g' o' T (Cw T.rows ⟨M,S,[],1,1⟩ k).M (Cw T.rows ⟨M,S,[],1,1⟩ k).S/\OwnSl o' F2 A cap (zs (Cw T.rows ⟨M,S,[],1,1⟩ k).cs)/\C3l T A/\(∀ k x,o k=some x->k≠T.bE->k≠T.bS->o' k=some x/\A≠some ⟨k,0,none⟩)/\ZIr g' w (Cw T.rows ⟨M,S,[],1,1⟩ k).last,
  fun L _=>c-(iAt L 2).toNat,⟨0,g1,o,none,0,⟨s1,A1,n1,c1⟩,by omega,rfl,l1,t1,(OwnSl.nil:OwnSl o F2 none 0 ([]:List Int)),⟨by simp,by simp,by simp⟩,fun k x e _ _=>⟨e,by simp⟩,i1⟩,?_⟩
 rintro pA pn pc a2 z ls lA ln lc hp ⟨k,g2,o2,A,cap,w,hk,eL,lg,t2,ow,E,ko,iw⟩
 simp only [bD,cC,cJ,aY,true_and,and_true] at eL
 obtain ⟨⟨rfl,rfl,rfl⟩,rfl,rfl,rfl,rfl,rfl,rfl⟩:=eL
 have X:=A3f T.rows ⟨M,S,[],1,1⟩ (show (1:Int)≠0 by decide) (.inl rfl) (bL _) k
 have a1:=B7n T.rows ⟨M,S,[],1,1⟩ rfl k
 have N:=hz.run hm1 k (by omega)
 refine B6 (fun a7=>?_) (fun a8=>?_)
 ·have a5:k<c:=by omega
  have Z:k<T.cols:=by omega
  have ew:B5 ((k:Int)+1)=((k+1:Nat):Int):=by rw [B7]<;>omega
  have F:Cw T.rows ⟨M,S,[],1,1⟩ (k+1)=Ih T.rows k (Cw T.rows ⟨M,S,[],1,1⟩ k):=rfl
  have a0:3^(Cw T.rows ⟨M,S,[],1,1⟩ k).cs.length*m<=3^nq*m:=aD _ (cU (by decide) (hnq k (by omega)))
  have ac:=A0m (Cw T.rows ⟨M,S,[],1,1⟩ k).cs.length m hm1
  generalize hst0:Cw T.rows ⟨M,S,[],1,1⟩ k=st at *
  have G:fnd (fun i=>decide (st.M i k≠0)) (T.rows-st.cs.length) st.cs.length=Uh T.rows k st:=rfl
  have a6:=A6c T.rows k st X.2.2
  refine A49 t2 X.2.2 Z (fun V=>?_) (fun V=>?_)
  ·rw [G] at V ⊢
   have d:Ih T.rows k st={ M:=clr (fun i=>st.M (xch st.cs.length (Uh T.rows k st) i)) st.cs.length k st.last,S:=fun i=>st.S (xch st.cs.length (Uh T.rows k st) i),cs:=st.cs++[k],last:=st.M (Uh T.rows k st) k,sgn:=if Uh T.rows k st=st.cs.length then st.sgn else-st.sgn }:=by unfold Ih;rw [iP V]
   generalize hr:Uh T.rows k st=r at *
   have B:st.cs.length<T.rows:=by omega
   refine ⟨_,_,rfl,fun L hq=>∃ (g3 Q:aG),L=[I (if r=st.cs.length then st.sgn else-st.sgn)]/\g2.le g3/\Tab hq g3 Q T (fun i=>st.M (xch st.cs.length r i)) (fun i=>st.S (xch st.cs.length r i))/\∀ b,b≠T.bE->b≠T.bS->Q b=o2 b,?_,?_⟩
   ·refine I8 (fun au=>?_) (fun ar=>?_)
    ·have f:r≠st.cs.length:=by omega
     refine B2i t2 B V (fun e=>f e.symm) ?_
     intro h3 Q t3 W
     refine ⟨rfl,g2,Q,?_,B4 _,t3,W⟩
     rw [iN f]
     have:B5 (0-st.sgn)= - st.sgn:=by rw [B7]<;>omega
     rw [this]
    ·have q:r=st.cs.length:=by omega
     refine ⟨g2,o2,by rw [iP q],B4 _,t2.congr (fun i j _ _=>?_) (fun i _=>?_),fun _ _ _=>rfl⟩
     ·rw [q];unfold xch;grind
     ·rw [q];unfold xch;grind
   ·rintro aj h4 ⟨g3,Q,af,l3,t3,W⟩
    obtain rfl:aj=if r=st.cs.length then st.sgn else-st.sgn:=by simpa using af
    refine ⟨_,rfl,_,_,_,t3.c2,?_⟩
    have xk:xch st.cs.length r st.cs.length=r:=Sy _ _
    have aq:∀ i,i<T.rows->xch st.cs.length r i<T.rows:=fun i hi=>Rl B V hi
    refine ⟨fun L hq=>∃ (i:Nat) (g4 R:aG),i<=T.rows/\L=[I i]/\g3.le g4/\Tab hq g4 R T (fun a b=>if a<i/\a≠st.cs.length then clr (fun i=>st.M (xch st.cs.length r i)) st.cs.length k st.last a b else st.M (xch st.cs.length r a) b) (fun i=>st.S (xch st.cs.length r i))/\∀ b,b≠T.bE->R b=Q b,fun L _=>T.rows-(iAt L 0).toNat,⟨0,g3,Q,by omega,rfl,B4 _,t3.congr (fun a b _ _=>by rw [iN (by omega)]) (fun _ _=>rfl),fun _ _=>rfl⟩,?_⟩
    rintro zi h5 ⟨i,g4,R,hi,ax,l4,t4,J⟩
    obtain rfl:=sI1 ax
    have ae:B5 ((i:Int)+1)=((i+1:Nat):Int):=by rw [B7]<;>omega
    refine B6 (fun az=>?_) (fun a3=>?_)
    ·have aa:i<T.rows:=by omega
     refine I8 (fun au=>?_) (fun ar=>?_)
     ·have f:i≠st.cs.length:=by omega
      refine B0v (m:=3^st.cs.length*m) t4 aa B f Z (Kw _ _ _ _ (B0 l3 l4) iw) X.1 ac (by omega) (fun b H=>?_) (fun b H=>?_) N.last ?_
      ·rw [iN (by omega)];exact N.M _ b (aq i aa) H
      ·rw [iN (by omega),xk];exact N.M r b V H
      intro h6 g6 o6 l6 t6 aw
      refine ⟨rfl,?_⟩
      rw [ae]
      refine ⟨⟨i+1,g6,o6,by omega,rfl,B0 l4 l6,t6.congr (fun a b _ _=>?_) (fun _ _=>rfl),fun b H=>by rw [aw b H,J b H]⟩,by simp only [Ec];omega⟩
      show (if a=i then ((if st.cs.length<i/\st.cs.length≠st.cs.length then _ else st.M (xch st.cs.length r st.cs.length) k)*(if i<i/\i≠st.cs.length then _ else st.M (xch st.cs.length r i) b)-(if i<i/\i≠st.cs.length then _ else st.M (xch st.cs.length r i) k)*(if st.cs.length<i/\st.cs.length≠st.cs.length then _ else st.M (xch st.cs.length r st.cs.length) b)).tdiv st.last else if a<i/\a≠st.cs.length then clr (fun i=>st.M (xch st.cs.length r i)) st.cs.length k st.last a b else st.M (xch st.cs.length r a) b)=if a<i+1/\a≠st.cs.length then clr (fun i=>st.M (xch st.cs.length r i)) st.cs.length k st.last a b else st.M (xch st.cs.length r a) b
      rw [iN (show ¬ (st.cs.length<i/\st.cs.length≠st.cs.length) by omega),iN (show ¬ (i<i/\i≠st.cs.length) by omega),iN (show ¬ (i<i/\i≠st.cs.length) by omega),iN (show ¬ (st.cs.length<i/\st.cs.length≠st.cs.length) by omega)]
      by_cases ea:a=i
      ·subst ea
       rw [iP rfl,iP ⟨by omega,f⟩]
       unfold clr
       rw [iN f]
      ·rw [iN ea]
       by_cases D:a<i/\a≠st.cs.length
       ·rw [iP D,iP ⟨by omega,D.2⟩]
       ·rw [iN D,iN (by omega)]
     ·have q:i=st.cs.length:=by omega
      rw [ae]
      refine ⟨⟨i+1,g4,R,by omega,rfl,l4,t4.congr (fun a b _ _=>?_) (fun _ _=>rfl),J⟩,by simp only [Ec];omega⟩
      by_cases D:a<i/\a≠st.cs.length
      ·rw [iP D,iP ⟨by omega,D.2⟩]
      ·rw [iN D,iN (by omega)]
    ·have ai:i=T.rows:=by omega
     subst ai
     have tF:Tab h5 g4 R T (clr (fun i=>st.M (xch st.cs.length r i)) st.cs.length k st.last) (fun i=>st.S (xch st.cs.length r i)):=t4.congr (fun a b ha _=>by
      by_cases D:a=st.cs.length
      ·rw [iN (by omega),D];unfold clr;rw [iP rfl]
      ·rw [iP ⟨ha,D⟩]) (fun _ _=>rfl)
     refine Gf tF B ⟨_,_,_,rfl,_,rfl,by omega,by omega,?_⟩
     obtain ⟨wl,zl,d0,d1⟩:=tF.at B Z
     have al:ZIr g4 wl (st.M r k):=by
      have:clr (fun i=>st.M (xch st.cs.length r i)) st.cs.length k st.last st.cs.length k=st.M r k:=by unfold clr;rw [iP rfl];show st.M (xch st.cs.length r st.cs.length) k=_;rw [xk]
      rw [this] at zl;exact zl
     refine ⟨_,_,_,_,d0,d1,?_⟩
     have u:∀ b,b≠T.bE->b≠T.bS->R b=o2 b:=fun b h1 h2=>by rw [J b h1,W b h1 h2]
     have an:OwnSl R F2 pA pc (zs st.cs):=ow.keep fun b x hA H=>by
      rw [u b (fun e=>E.2.1 (by rw [<- e];exact hA)) (fun e=>E.2.2 (by rw [<- e];exact hA))];exact H
     have C:(zs st.cs).length=st.cs.length:=by simp
     refine N4 (ty:=Fy) C3y tF.sep an (by simp) (y:=((k:Nat):Int)) rfl (by decide) (by rw [C];omega) (by rw [C];omega) ?_
     intro A' c' h' g' o' O s' am p
     obtain ⟨⟨x1,ah⟩,⟨x2,ay⟩,⟨x3,ag⟩⟩:=tF.own
     have t':=tF.keep s' O (fun kk x e av=>by
      rcases av with rfl|rfl|rfl
      ·exact (p _ _ e E.1).1
      ·exact (p _ _ e E.2.1).1
      ·exact (p _ _ e E.2.2).1)
     rw [C,ew]
     have ad:(st.cs++[k]).length=st.cs.length+1:=by simp
     refine ⟨⟨k+1,g',o',A',c',wl,by omega,?_,B0 lg (B0 l3 (B0 l4 O)),?_⟩,?_⟩
     ·rw [F,d,ad]
     ·rw [F,d]
      refine ⟨t',by simpa [zs] using am,⟨(p _ _ ah E.1).2,(p _ _ ay E.2.1).2,(p _ _ ag E.2.2).2⟩,fun kk x e h1 h2=>?_,Kw _ _ _ _ O al⟩
      obtain ⟨e2,ao⟩:=ko kk x e h1 h2
      exact p kk x (by rw [u kk h1 h2];exact e2) ao
     ·show c-((k+1:Nat):Int).toNat<c-((k:Nat):Int).toNat
      omega
  ·rw [G] at V
   have d:Ih T.rows k st=st:=by unfold Ih;rw [iN (by omega)]
   refine ⟨_,_,rfl,?_⟩
   rw [ew]
   refine ⟨⟨k+1,g2,o2,pA,pc,w,by omega,by rw [F,d],lg,?_⟩,?_⟩
   ·rw [F,d];exact ⟨t2,ow,E,ko,iw⟩
   ·show c-((k+1:Nat):Int).toNat<c-((k:Nat):Int).toNat
    omega
 ·have:k=c:=by omega
  subst this
  exact hK hp g2 o2 pA pc w lg t2 ow E ko iw
end
section
variable {h:aG} {K:VP} {A B:Option aL} {n c n' c' m:Nat} {s s':Bool} {x y:Int}
def C1j:RQ h ⟨false,none,0,0,false,none,0,0⟩ 0:=⟨ZI.zero,ZI.zero⟩
def A8e{z:Int}(i:ZI h s A n c z):RQ h ⟨s,A,n,c,false,none,0,0⟩ (z:Rat):=⟨by simpa using i,by simpa using ZI.zero⟩
def Bv(gl:Gtz h)(ix:ZI h s A n c x)(iy:ZI h s' B n' c' y)(hx:ZB m x)(hy:ZB m y)(hm:m<=6400000000)(hK:∀ w h',h.le h'->RQ h' w (cH x y)->K w.v h'):bC prog Y7 #[.agg #[.bool s,.slice A n c],.agg #[.bool s',.slice B n' c']] h K:=by
 refine A57 _ _ _ _ _ _ _ _ ?_
 unfold A58
 refine ⟨fun L S=>S=h/\((L=[.bool true]/\cH x y=0)\/(L=[.bool false]/\y≠0)),?_,?_⟩
 ·refine G0 iy ⟨_,rfl,B6 (fun e=>⟨rfl,.inl ⟨rfl,by rw [e];exact Rat.divInt_zero x⟩⟩) (fun e=>G0 ix ⟨_,rfl,rfl,?_⟩)⟩
  by_cases u:x=0
  ·exact .inl ⟨by rw [decide_eq_true u],by rw [u];exact Rat.zero_divInt y⟩
  ·exact .inr ⟨by rw [decide_eq_false u],e⟩
 rintro t S ⟨rfl,W⟩
 refine Br.of (fun e=>?_) (fun e=>?_)
 ·rcases W with ⟨_,H⟩|⟨k,_⟩
  ·rw [H] at hK
   exact hK _ _ (B4 _) C1j
  ·simp at k;rw [e] at k;cases k
 have ad:y≠0:=by
  rcases W with ⟨k,_⟩|⟨_,H⟩
  ·simp at k;rw [e] at k;cases k
  ·exact H
 refine ⟨fun l C=>∃ s A n c s' B n' c' d f,l=[.bool s,.slice A n c,.bool s',.slice B n' c']/\S.le C/\ZI C s A n c d/\ZI C s' B n' c' f/\0<f/\cH d f=cH x y/\ZB m d/\ZB m f,?_,?_⟩
 ·refine Ej iy ⟨_,rfl,B6 (fun e=>?_) (fun e=>?_)⟩
  ·have Z:y<0:=by rwa [Int.sign_neg_iff] at e
   refine U6 ix ?_
   intro s1 o
   refine ⟨_,_,_,_,rfl,B4 _,?_⟩
   refine U6 iy ?_
   intro X r
   exact ⟨_,_,_,_,rfl,B4 _,_,_,_,_,_,_,_,_,-x,-y,rfl,B4 _,o,r,by omega,Rat.neg_divInt_neg x y,hx.neg,hy.neg⟩
  ·have g:0<y:=by rw [Int.sign_neg_iff] at e;omega
   exact ⟨_,_,_,_,_,_,_,_,x,y,rfl,B4 _,ix,iy,g,rfl,hx,hy⟩
 rintro s1 A1 n1 c1 X A2 n2 c2 aa ⟨T,A1',M,N,J,A2',G,R,d,f,hl,i,o,r,g,C,z,j⟩
 obtain ⟨rfl,⟨rfl,rfl,rfl⟩,rfl,rfl,rfl,rfl⟩:s1=T/\(A1=A1'/\n1=M/\c1=N)/\X=J/\A2=A2'/\n2=G/\c2=R:=by simpa using hl
 rw [<- C] at hK
 refine Q8 r ⟨_,rfl,B6 (fun V=>?_) (fun V=>?_)⟩
 ·rw [V,Kp] at hK
  exact hK _ _ i (A8e o)
 refine Cr (gl.mono i) o r z j hm ?_
 intro A3 n3 c3 h3 p F
 refine ⟨_,_,_,_,rfl,?_⟩
 generalize hqq:cH d f=q at *
 have a:q.num=d/(dP d f:Int):=by
  rw [<- hqq,Rat.num_divInt,Int.sign_eq_one_of_pos g,Int.one_mul,Int.gcd_comm]
 have b:(q.den:Int)=f/(dP d f:Int):=by
  rw [<- hqq,Rat.den_divInt,iN (by omega),Int.gcd_comm,Int.natCast_ediv,Int.natAbs_of_nonneg (by omega)]
 have ac:0<dP d f:=Int.gcd_pos_of_ne_zero_right d (by omega)
 have D:ZB m (dP d f:Int):=ZB.gcd (by omega) j
 refine Q8 F ⟨_,rfl,P6 (B6 (fun u=>?_) (fun u=>?_))⟩
 ·rw [u] at a b
  simp at a b
  refine T5 (q:=q) (o.mono p) (r.mono p) a b ?_
  intro w Q
  exact ⟨_,_,_,_,_,_,_,_,rfl,hK _ _ (B0 i p) Q⟩
 ·refine Q7 (o.mono p) F z D hm (by omega) ?_
  intro s4 A4 n4 c4 h4 E i4
  refine ⟨_,_,_,_,rfl,E,?_⟩
  refine Q7 ((r.mono p).mono E) (F.mono E) j D hm (by omega) ?_
  intro s5 A5 n5 c5 h5 O i5
  refine ⟨_,_,_,_,rfl,O,?_⟩
  refine T5 (q:=q) (i4.mono O) i5 (by rw [a,dX (Int.gcd_dvd_left d f)]) (by rw [b,dX (Int.gcd_dvd_right d f)]) ?_
  intro w Q
  exact ⟨_,_,_,_,_,_,_,_,rfl,hK _ _ (B0 i (B0 p (B0 E O))) Q⟩
end
section
variable {α:Type} [E:Enc α]
def OwnSl.store{P:cY}{t e:cF}(one:P.cellsOf t=E.default.size/\(P.info? t).isSome=true){v:cG}{y:α}(hv:v.cells=(enc y).toArray){h g o:aG}{A:Option aL}{c:Nat}{xs:List α}(s:Sep h g o)(w:OwnSl o e A c xs){i b:Nat}(hi:i<xs.length)(hA:A=some ⟨b,0,none⟩){K:Unit->aG->Prop}
 (x:∀ h' o',Sep h' g o'->OwnSl o' e A c (xs.set i y)->(∀ k,k≠b->o' k=o k)->K () h'):wpH P (aX t (.pointer (some (aF ⟨b,0,none⟩ (i*E.default.size)))) v) K h:=by
 rcases w.2 with ⟨F,_⟩|⟨D,f,d,p,q,C⟩
 ·exfalso;have:=w.1;omega
 ·rw [hA] at d
  simp only [aR,bH,and_true] at d
  subst d
  obtain ⟨ex,hex⟩:∃ ex,f=xs.flatMap enc++ex:=⟨f.drop (xs.length*E.default.size),by rw [<- C,List.take_append_drop]⟩
  rw [hex] at p q
  obtain ⟨B,j⟩:=Option.isSome_iff_exists.1 one.2
  have u:B.size=E.default.size:=by simpa [Program.cellsOf,j] using one.1
  have l:=E.default.len y
  have m:(i+1)*E.default.size<=xs.length*E.default.size:=aD _ hi
  rw [aM,aQ] at m
  have a:(h.without b).put b (.cells (xs.flatMap enc++ex).toArray e)=h:=L3 (s.own b _ p)
  unfold aX
  simp only [C6,Instr.sureAddr,G1,storeVar,N6 j,u,hv,List.size_toArray,l,ne_eq,not_true_eq_false,if_false]
  rw [E5,aN,<- a]
  refine J7 (enc y) (i*E.default.size) 0 _ (by rw [aC,K7,l];omega) (E.default.one y) ?_
  have n:N7 (xs.flatMap enc++ex) (i*E.default.size+0) (enc y)=(xs.set i y).flatMap enc++ex:=by
   rw [dB,<- A0y xs hi]
   unfold N7
   rw [dK (by rw [K7];omega),List.drop_append_of_le_length (by rw [K7,l];omega),dJ,dJ,dJ]
  rw [n]
  have r:(h.without b).put b (.cells ((xs.set i y).flatMap enc++ex).toArray e)=h.put b (.cells ((xs.set i y).flatMap enc++ex).toArray e):=by
   rw [<- a,Js,a]
  rw [r]
  refine x _ _ (s.upd p _) ⟨by simpa using w.1,.inr ⟨b,(xs.set i y).flatMap enc++ex,hA,C2 _ _ _,?_,?_⟩⟩ (fun k z=>B8 _ _ z)
  ·rw [aC,K7] at q ⊢
   simpa using q
  ·rw [dK (by rw [K7];omega),List.take_of_length_le (by rw [K7];omega)]
end
section
variable {h g:aG} {K:VP} {A:Option aL} {n c cols:Nat}
def B6m(h:aG)(v:cG)(A:Option aL)(n c cols:Nat):Prop:=∃ f0 f1:aL,v= .func (.func Iw) #[] #[.pointer (some f0),.pointer (some f1)]/\h.cell? f0=some (.slice A n c)/\h.cell? f1=some (I (cols:Int))
def Yz(hc:1<=cols)(hK:∀ v h',h.le h'->B6m h' v A n c cols->K v h'):bC prog To #[.slice A n c,I (cols:Int)] h K:=by
 refine B6i _ _ _ _ ?_
 unfold C0v
 refine A79 ?_
 intro b f
 refine ⟨_,rfl,A79 ?_⟩
 intro d a
 have c1:Heap.cell? ((h.put b (.cells (cN (.slice A n c)) V1)).put d (.cells (cN (I (cols:Int))) 3)) ⟨d,0,none⟩=some (I (cols:Int)):=by rw [E4];rfl
 refine ⟨_,rfl,_,c1,B6 (fun e=>by omega) (fun _=>hK _ _ (B0 (Heap.le_put _ f) (Heap.le_put _ a)) ⟨⟨b,0,none⟩,⟨d,0,none⟩,rfl,?_,c1⟩)⟩
 refine B9 (Heap.le_put _ a) ?_
 rw [E4];rfl
def Uk{g0:aG}{v:cG}{rows:Nat}(ic:B6m g0 v A (rows*cols) c cols)(hc:1<=cols)(hn:rows*cols<=1000000000)(hcap:rows*cols<=c){B:List cG->aG->(aG->Prop)->Prop}{K:aG->Prop}(J:Nat->aG->Prop)(h0:J 0 h)(hle:∀ k h,J k h->g0.le h)
 (hB:∀ k h1,k<rows->J k h1->B [.slice (J9 A ((k+1)*cols) (k*cols) 4) cols cols] h1 (J (k+1))) (hK:∀ h1,J rows h1->K h1):A59 prog v h B K:=by
 obtain ⟨j,g,rfl,y,s⟩:=ic
 refine ⟨Iw,#[],#[.pointer (some j),.pointer (some g)],rfl,A2h,?_⟩
 intro l rec H a
 have F:(#[] ++ #[.func (.yield l) #[] #[]] ++ #[.pointer (some j),.pointer (some g)]:Array cG)=#[.func (.yield l) #[] #[],.pointer (some j),.pointer (some g)]:=by simp
 rw [F]
 refine B1k l j g ?_
 unfold B6j
 refine ⟨fun L w=>∃ (k:Nat) (h1:aG),k<=rows/\L=[I ((k*cols:Nat):Int)]/\h1 l=none/\w=h1.put l (.loop rec)/\J k h1,fun L _=>rows*cols-(iAt L 0).toNat,⟨0,h,by omega,by simp,H,rfl,h0⟩,?_⟩
 rintro i w ⟨k,h1,Q,E,b,rfl,n⟩
 obtain rfl:i=((k*cols:Nat):Int):=by simpa using E
 have x:=B0 (hle k h1 n) (Heap.le_put (.loop rec) b)
 have p:=B9 x y
 have z:=B9 x s
 refine ⟨_,_,_,p,B6 (fun G=>?_) (fun C=>?_)⟩
 ·have e:k<rows:=by
   by_cases m:k<rows
   ·exact m
   ·exfalso
    have:rows*cols<=k*cols:=aD _ (by omega)
    omega
  have R:(k+1)*cols<=rows*cols:=aD _ e
  have O:(k+1)*cols=k*cols+cols:=by rw [aM,aQ]
  have D:(if ((rows*cols-(((k*cols:Nat):Int)).toNat:Nat):Int)<(cols:Int) then ((rows*cols-(((k*cols:Nat):Int)).toNat:Nat):Int) else (cols:Int))=(cols:Int):=by
   rw [iN (by simp only [aH];omega)]
  have u:B5 (((k*cols:Nat):Int)+(cols:Int))=(((k+1)*cols:Nat):Int):=by rw [B7]<;>omega
  refine ⟨_,z,_,_,_,p,⟨by omega,by omega⟩,_,_,_,p,?_⟩
  rw [D,u]
  simp only [aH]
  have M:(k+1)*cols-k*cols=cols:=by omega
  rw [M]
  refine ⟨⟨by omega,by omega⟩,⟨by omega,by omega⟩,⟨by omega,by omega⟩,?_⟩
  refine (a _ h1 (J (k+1)) b (hB k h1 e n)).mono ?_
  rintro r N ⟨rfl,t,f,rfl,d⟩
  refine ⟨_,rfl,?_⟩
  show ∃ (t11:Int),_
  have o:=B0 (hle _ t d) (Heap.le_put (.loop rec) f)
  refine ⟨_,B9 o s,?_⟩
  rw [u]
  exact ⟨⟨k+1,t,by omega,rfl,f,rfl,d⟩,by simp only [Ec];omega⟩
 ·have q:k=rows:=by
   by_cases m:k=rows
   ·exact m
   ·exfalso
    have:(k+1)*cols<=rows*cols:=aD _ (by omega)
    rw [aM,aQ] at this
    omega
  subst q
  exact ⟨h1,b,rfl,hK h1 n⟩
end
section
variable {α:Type} [E:Enc α]
def Wu{P:cY}{t e:cF}{z:cG}{bytes:Nat}(st:SliceT P t e z E.default.size bytes){h g o:aG}{A:Option aL}{c:Nat}{xs:List α}(s:Sep h g o)(w:OwnSl o e A c xs){v:cG}{y:α}(hv:v.cells=(enc y).toArray)(hsz:E.default.size<=1000)
 (hb:(2*(xs.length+1)+192)*bytes<=281474976710656) (hn:xs.length+1<=9223372036854775807) {K:VP}
 (x0:∀ B m d hp,h.le hp->(∀ {ty:cF} {K2:VP},(∀ A' c' h' g' o',g.le g'->Sep h' g' o'->OwnSl o' e A' c' (xs++[y])->(∀ k u,o k=some u->A≠some ⟨k,0,none⟩->o' k=some u/\A'≠some ⟨k,0,none⟩)->K2 (.slice A' (xs.length+1) c') h')->wpH P (bU #[t,t] ty #[.slice A xs.length c,.slice B m d]) K2 hp)->K (.slice B m d) hp):
 wpH P (cM t 1 #[(0,v)]) K h:=by
 obtain ⟨gb,p,G⟩:=w.priv s
 refine Uw st (vs:=[v]) (fun u hu=>by rw [List.mem_singleton.1 hu,hv];simp [E.default.len]) rfl (by simp;omega) rfl ?_
 intro b i
 have Q:[v].flatMap (fun v=>v.cells.toList)=[y].flatMap enc:=by simp [hv]
 rw [Q]
 refine x0 _ _ _ _ (Heap.le_put _ i) (fun {ty K2} x=>?_)
 have p':PrivF (h.put b (.cells ([y].flatMap enc).toArray e)) (gb.put b (.cells ([y].flatMap enc).toArray e)) e A c xs:=Priv.put p i _
 refine Kr st p' (ys:=[y]) rfl (A7c e h b [y]) hb hn ?_
 intro A' c' h' g' hg hp
 rw [aC]
 have H:∀ k u,h k=some u->A≠some ⟨k,0,none⟩->g' k=some u:=by
  intro k u a R
  have f:k≠b:=by rintro rfl;rw [i] at a;cases a
  exact hg k u (by rw [B8 _ _ f];exact G k u a R)
 have S:∀ k u,g k=some u->A≠some ⟨k,0,none⟩:=by
  intro k u a q
  rcases w.2 with ⟨_,W⟩|⟨j,n,l,r,_⟩
  ·rw [q] at W;cases W
  ·rw [q] at l
   simp only [aR,bH,and_true] at l
   subst l
   rw [s.dis k _ r] at a;cases a
 rcases hp.2.2 with ⟨aa,_⟩|⟨j,n,l,r,J,ha,ht⟩
 ·exfalso
  have:=hp.2.1
  rw [aC] at this
  simp at this
  omega
 ·subst l
  let o':aG:=fun k=>if k=j then some (.cells (cT n) e) else if A=some ⟨k,0,none⟩ then none else o k
  have ob:o' j=some (.cells (cT n) e):=by show (if j=j then _ else _)=_;rw [iP rfl]
  have T:∀ k,k≠j->A≠some ⟨k,0,none⟩->o' k=o k:=fun k L C=>by show (if k=j then _ else if _ then _ else _)=_;rw [iN L,iN C]
  have V:∀ k,k≠j->A=some ⟨k,0,none⟩->o' k=none:=fun k L C=>by show (if k=j then _ else if _ then _ else _)=_;rw [iN L,iP C]
  let g2:aG:=fun k=>match o' k with|some _=>none|none=>h' k
  have gs:∀ k u,o' k=some u->g2 k=none:=fun k u a=>by show (match o' k with|some _=>none|none=>h' k)=_;rw [a]
  have Z:∀ k,o' k=none->g2 k=h' k:=fun k a=>by show (match o' k with|some _=>none|none=>h' k)=_;rw [a]
  have D:∀ k u,k≠j->g' k=some u->h' k=some u:=fun k u L a=>by rw [J,B8 _ _ L];exact a
  have M:∀ k u,o k=some u->A≠some ⟨k,0,none⟩->k≠j:=by
   rintro k u a C rfl
   have:=H k u (s.own k u a) C
   rw [r] at this;cases this
  refine x _ c' h' g2 o' (fun k u a=>?_) ⟨fun k u a=>?_,fun k a=>(Z k a).symm,gs⟩ ⟨hp.2.1,.inr ⟨j,n,rfl,ob,ha,ht⟩⟩ (fun k u a C=>?_)
  ·have O:o k=none:=by
    cases ho:o k with
    | none=>rfl
    | some y=>rw [s.dis k y ho] at a;cases a
   have q:=S k u a
   have N:=H k u (s.le k u a) q
   have F:k≠j:=by rintro rfl;rw [r] at N;cases N
   rw [Z k (by rw [T k F q];exact O)]
   exact D k u F N
  ·by_cases f:k=j
   ·subst f
    rw [ob] at a;cases a
    rw [J,C2]
   ·by_cases q:A=some ⟨k,0,none⟩
    ·rw [V k f q] at a;cases a
    ·rw [T k f q] at a
     exact D k u f (H k u (s.own k u a) q)
  ·have f:=M k u a C
   refine ⟨by rw [T k f C];exact a,fun X=>f ?_⟩
   simp only [aR,bH,and_true] at X
   exact X.symm
end
def A26{P:cY}{t:cF}(one:P.cellsOf t=1/\(P.info? t).isSome=true){v:cG}(hv:A8m v=true)(hc:v.cells=#[v]){h g o:aG}(s:Sep h g o){b:Nat}{cs:Array cG}{e:cF}(hb:o b=some (.cells cs e)){i:Nat}(hi:i<cs.size){K:Unit->aG->Prop}
 (x:∀ h' o',Sep h' g o'->o'=o.put b (.cells (cs.setIfInBounds i v) e)->K () h'):wpH P (aX t (.pointer (some (aF ⟨b,0,none⟩ i))) v) K h:=by
 rw [E5,aN]
 have a:h.put b (.cells cs e)=h:=A2j (s.own b _ hb)
 rw [<- a]
 refine Er one.1 one.2 hv hc hi ?_
 exact x _ _ (s.upd hb _) rfl
structure NT (o:aG) (bp bt cols:Nat) (es:List IV) (ss:List QV) (A:Option aL) (c:Nat) (A':Option aL) (c':Nat):Prop where
 hp:∃ e,o bp=some (.cells #[.pointer (some ⟨bt,0,none⟩)] e)
 ht:∃ e,o bt=some (.cells #[I (cols:Int),.slice A es.length c,.slice A' ss.length c'] e)
 oe:OwnSl o Fu A c es
 os:OwnSl o K0 A' c' ss
 ne:bp≠bt
 a1:A≠some ⟨bp,0,none⟩/\A≠some ⟨bt,0,none⟩
 a2:A'≠some ⟨bp,0,none⟩/\A'≠some ⟨bt,0,none⟩
 a3:∀ b,A=some ⟨b,0,none⟩->A'≠some ⟨b,0,none⟩
section
variable {h g o:aG} {bp bt cols:Nat} {es:List IV} {ss:List QV} {A A':Option aL} {c c':Nat}
def NT.cp(n:NT o bp bt cols es ss A c A' c')(s:Sep h g o):h.cell? ⟨bp,0,none⟩=some (.pointer (some ⟨bt,0,none⟩)):=by
 obtain ⟨e,a⟩:=n.hp
 refine s.cell ?_
 unfold Heap.cell?;simp only [a];rfl
def NT.c1(n:NT o bp bt cols es ss A c A' c')(s:Sep h g o):h.cell? (aF ⟨bt,0,none⟩ 1)=some (.slice A es.length c):=by
 obtain ⟨e,a⟩:=n.ht
 refine s.cell ?_
 rw [E5];unfold Heap.cell?;simp only [a];rfl
def NT.c2(n:NT o bp bt cols es ss A c A' c')(s:Sep h g o):h.cell? (aF ⟨bt,0,none⟩ 2)=some (.slice A' ss.length c'):=by
 obtain ⟨e,a⟩:=n.ht
 refine s.cell ?_
 rw [E5];unfold Heap.cell?;simp only [a];rfl
def B7h:prog.cellsOf Rn=1/\(prog.info? Rn).isSome=true:=by constructor<;>kernel_rfl
def B7g:prog.cellsOf V1=1/\(prog.info? V1).isSome=true:=by constructor<;>kernel_rfl
def NT.buildE(n:NT o bp bt cols es ss A c A' c')(s:Sep h g o)(w:IV)(hl:es.length<=100000000){F:aG->Prop}(hF:∀ h' g' o' A2 c2,g.le g'->Sep h' g' o'->NT o' bp bt cols (es++[w]) ss A2 c2 A' c'->F h'){K:VP}
 (x:∀ B m d hp,h.le hp->hp.cell? ⟨bp,0,none⟩=some (.pointer (some ⟨bt,0,none⟩))->(∀ {K2:VP},(∀ A2 c2 h2,h2.cell? ⟨bp,0,none⟩=some (.pointer (some ⟨bt,0,none⟩))->wpH prog (aX Rn (.pointer (some (aF ⟨bt,0,none⟩ 1))) (.slice A2 (es.length+1) c2)) (fun _ h3=>F h3) h2->K2 (.slice A2 (es.length+1) c2) h2)->wpH prog (bU #[Rn,Rn] Rn #[.slice A es.length c,.slice B m d]) K2 hp)->K (.slice B m d) hp):
 wpH prog (cM Rn 1 #[(0,w.v)]) K h:=by
 refine Wu tZs s n.oe (y:=w) rfl (by decide) (by omega) (by omega) ?_
 intro B m d hp G j
 refine x B m d hp G (B9 G (n.cp s)) (fun {K2} t=>j ?_)
 intro A2 c2 h2 Q H T D S keep
 obtain ⟨M,u⟩:=n.hp
 obtain ⟨R,r⟩:=n.ht
 have z:=keep bp _ u n.a1.1
 have q:=keep bt _ r n.a1.2
 refine t A2 c2 h2 ?_ ?_
 ·refine D.cell ?_
  unfold Heap.cell?;simp only [z.1];rfl
 ·refine A26 B7h rfl rfl D q.1 (by simp) ?_
  intro h3 L V J
  have C:∀ k,k≠bt->L k=H k:=fun k t=>by rw [J,B8 _ _ t]
  refine hF h3 Q L A2 c2 T V ⟨⟨M,by rw [C _ n.ne];exact z.1⟩,⟨R,by rw [J,C2];simp⟩,S.keep fun b y f l=>by rw [C b (fun e=>q.2 (by rw [<- e];exact f))];exact l,?_,n.ne,⟨z.2,q.2⟩,n.a2,?_⟩
  ·refine (n.os.keep (o':=H) fun b y f l=>(keep b y l (fun e=>n.a3 b e f)).1).keep fun b y f l=>by rw [C b (fun e=>n.a2.2 (by rw [<- e];exact f))];exact l
  ·intro b f a
   rcases n.os.2 with ⟨_,N⟩|⟨E,O,i,p,_⟩
   ·rw [N] at a;cases a
   ·rw [i] at a
    simp only [aR,bH,and_true] at a
    subst a
    exact (keep E _ p (fun e=>n.a3 E e i)).2 f
def NT.buildS(n:NT o bp bt cols es ss A c A' c')(s:Sep h g o)(w:QV)(hl:ss.length<=100000000){F:aG->Prop}(hF:∀ h' g' o' A2 c2,g.le g'->Sep h' g' o'->NT o' bp bt cols es (ss++[w]) A c A2 c2->F h'){K:VP}
 (x:∀ B m d hp,h.le hp->hp.cell? ⟨bp,0,none⟩=some (.pointer (some ⟨bt,0,none⟩))->(∀ {K2:VP},(∀ A2 c2 h2,h2.cell? ⟨bp,0,none⟩=some (.pointer (some ⟨bt,0,none⟩))->wpH prog (aX V1 (.pointer (some (aF ⟨bt,0,none⟩ 2))) (.slice A2 (ss.length+1) c2)) (fun _ h3=>F h3) h2->K2 (.slice A2 (ss.length+1) c2) h2)->wpH prog (bU #[V1,V1] V1 #[.slice A' ss.length c',.slice B m d]) K2 hp)->K (.slice B m d) hp):
 wpH prog (cM V1 1 #[(0,w.v)]) K h:=by
 refine Wu B2g s n.os (y:=w) rfl (by decide) (by omega) (by omega) ?_
 intro B m d hp D f
 refine x B m d hp D (B9 D (n.cp s)) (fun {K2} q=>f ?_)
 intro A2 c2 h2 O E S z R keep
 obtain ⟨L,r⟩:=n.hp
 obtain ⟨Q,p⟩:=n.ht
 have t:=keep bp _ r n.a2.1
 have l:=keep bt _ p n.a2.2
 refine q A2 c2 h2 ?_ ?_
 ·refine z.cell ?_
  unfold Heap.cell?;simp only [t.1];rfl
 ·refine A26 B7g rfl rfl z l.1 (by simp) ?_
  intro h3 J T G
  have u:∀ k,k≠bt->J k=E k:=fun k q=>by rw [G,B8 _ _ q]
  refine hF h3 O J A2 c2 S T ⟨⟨L,by rw [u _ n.ne];exact t.1⟩,⟨Q,by rw [G,C2];simp⟩,?_,R.keep fun b y a i=>by rw [u b (fun e=>l.2 (by rw [<- e];exact a))];exact i,n.ne,n.a1,⟨t.2,l.2⟩,?_⟩
  ·refine (n.oe.keep (o':=E) fun b y a i=>(keep b y i (fun e=>n.a3 b a e)).1).keep fun b y a i=>by rw [u b (fun e=>n.a1.2 (by rw [<- e];exact a))];exact i
  ·intro b a
   rcases n.oe.2 with ⟨_,M⟩|⟨C,N,H,j,_⟩
   ·rw [M] at a;cases a
   ·rw [H] at a
    simp only [aR,bH,and_true] at a
    subst a
    exact (keep C _ j (fun e=>n.a3 C H e)).2
end
def A3h(E:Nat->Rat)(cols i:Nat):Nat->Rat:=fun j=>E (i*cols+j)
def B34(E:Nat->Rat)(cols i j:Nat):Int:=scl (A3h E cols i j) (Bo (A3h E cols i) cols:Int)
def B6v(E:Nat->Rat)(cols i:Nat):Nat->Nat
 | 0=>0
 | j+1=>dP (B6v E cols i j:Int) (B34 E cols i j)
def Yy(E:Nat->Rat)(cols i:Nat):Nat:=if B6v E cols i cols=0 then 1 else B6v E cols i cols
def A65(E:Nat->Rat)(cols i j:Nat):Int:=(B34 E cols i j).tdiv (Yy E cols i:Int)
def B2e(E:Nat->Rat)(cols i:Nat):Rat:=cH (Bo (A3h E cols i) cols:Int) (Yy E cols i:Int)
def B82(E:Nat->Rat)(cols i:Nat):∀ n j,j<n->(B6v E cols i n:Int)∣B34 E cols i j:=by
 intro n
 induction n with
 | zero=>intro j h;omega
 | succ n ih=>
  intro j a
  by_cases e:j=n
  ·subst e;exact Int.gcd_dvd_right _ _
  ·exact Int.dvd_trans (Int.gcd_dvd_left _ _) (ih j (by omega))
def Tt(E:Nat->Rat)(cols i:Nat):0<Yy E cols i:=by unfold Yy;split<;>omega
def B8d(E:Nat->Rat)(cols i:Nat){j:Nat}(hj:j<cols):(Yy E cols i:Int)∣B34 E cols i j:=by
 unfold Yy
 split
 ·exact Int.one_dvd _
 ·exact B82 E cols i cols j hj
def C19(E:Nat->Rat)(cols i:Nat){j:Nat}(hj:j<cols):(A65 E cols i j:Rat)=B2e E cols i*E (i*cols+j):=by
 have f:=Tt E cols i
 have a:((Yy E cols i:Nat):Int)≠0:=by omega
 have b:((A65 E cols i j:Int):Rat)*((Yy E cols i:Nat):Int)=E (i*cols+j)*((Bo (A3h E cols i) cols:Nat):Int):=by
  rw [<- bJ]
  unfold A65
  rw [Int.tdiv_mul_cancel (B8d E cols i hj)]
  exact B2t (by
   have:=A0t (A3h E cols i) cols j hj
   exact Int.natCast_dvd_natCast.2 this)
 have e:=X8 a
 unfold B2e
 rw [cQ]
 have c:(((Bo (A3h E cols i) cols:Nat):Int):Rat)/(((Yy E cols i:Nat):Int):Rat)*E (i*cols+j)=E (i*cols+j)*(((Bo (A3h E cols i) cols:Nat):Int):Rat)/(((Yy E cols i:Nat):Int):Rat):=by
  rw [aV,aV];grind
 rw [c,<- b]
 generalize (((Yy E cols i:Nat):Int):Rat)=d at *
 rw [aV]
 grind
def B78(E:Nat->Rat)(cols i:Nat):0<B2e E cols i:=by
 unfold B2e
 rw [cQ]
 have b:(0:Rat)<((Bo (A3h E cols i) cols:Nat):Int):=by
  have:=A0s (A3h E cols i) cols
  exact_mod_cast this
 have a:(0:Rat)<((Yy E cols i:Nat):Int):=by
  have:=Tt E cols i
  exact_mod_cast this
 rw [aV]
 exact Rat.mul_pos b (Rat.inv_pos.2 a)
def ZB.gcd2{k:Nat}{x y:Int}(hx:ZB k x)(hy:ZB k y):ZB k (dP x y:Int):=by
 by_cases h:y=0
 ·subst h
  rw [Int.gcd_zero_right]
  unfold ZB at *
  simpa using hx
 ·exact ZB.gcd h hy
section
variable {E:Nat->Rat} {cols i m:Nat}
def A0i(h:∀ j,j<cols->Sz m (E (i*cols+j))){j:Nat}(hj:j<cols):ZB (1+cols*m+m) (B34 E cols i j):=by
 have:=B2s (h j hj) (Lu (f:=A3h E cols i) cols h)
 exact this.mono (by omega)
def B42(h:∀ j,j<cols->Sz m (E (i*cols+j))):∀ j,j<=cols->ZB (1+cols*m+m) (B6v E cols i j:Int):=by
 intro j
 induction j with
 | zero=>intro _;exact ZB.zero
 | succ j ih=>intro a;exact (ih (by omega)).gcd2 (A0i h (by omega))
def A1x(h:∀ j,j<cols->Sz m (E (i*cols+j))):ZB (1+cols*m+m) (Yy E cols i:Int):=by
 unfold Yy
 split
 ·exact ZB.one (by omega)
 ·exact B42 h cols (aE _)
def C18(h:∀ j,j<cols->Sz m (E (i*cols+j))){j:Nat}(hj:j<cols):ZB (1+cols*m+m) (A65 E cols i j):=(A0i h hj).tdiv
def B2d(h:∀ j,j<cols->Sz m (E (i*cols+j))):Sz (1+cols*m+m) (B2e E cols i):=by
 have:=Tt E cols i
 exact Fo (by omega) ((Lu (f:=A3h E cols i) cols h).mono (by omega)) (A1x h)
end
structure EsOk (g:aG) (E:Nat->Rat) (cols k:Nat) (es:List IV) (V:Nat->Int) (j:Nat):Prop where
 len:es.length=k*cols+j
 rows:∀ a b,a<k->b<cols->∃ w,es[a*cols+b]? = some w/\ZIr g w (A65 E cols a b)
 last:∀ b,b<j->∃ w,es[k*cols+b]? = some w/\ZIr g w (V b)
def EsOk.mono{g g':aG}{E:Nat->Rat}{cols k j:Nat}{es:List IV}{V:Nat->Int}(e:EsOk g E cols k es V j)(l:g.le g'):EsOk g' E cols k es V j:=by
 refine ⟨e.len,fun a b f i=>?_,fun b f=>?_⟩
 ·obtain ⟨w,c,d⟩:=e.rows a b f i;exact ⟨w,c,Kw _ _ _ _ l d⟩
 ·obtain ⟨w,c,d⟩:=e.last b f;exact ⟨w,c,Kw _ _ _ _ l d⟩
def EsOk.push{g:aG}{E:Nat->Rat}{cols k j:Nat}{es:List IV}{V:Nat->Int}(e:EsOk g E cols k es V j){w:IV}(hw:ZIr g w (V j)):EsOk g E cols k (es++[w]) V (j+1):=by
 have m:=e.len
 refine ⟨by rw [aC,e.len];rfl,fun a b d i=>?_,fun b d=>?_⟩
 ·obtain ⟨u,c,f⟩:=e.rows a b d i
  have l:=Bp d i
  exact ⟨u,by rw [aU (by omega)];exact c,f⟩
 ·by_cases n:b=j
  ·subst n
   exact ⟨w,by rw [bB (by omega),m];simp,hw⟩
  ·obtain ⟨u,c,f⟩:=e.last b (by omega)
   exact ⟨u,by rw [aU (by omega)];exact c,f⟩
def EsOk.set{g:aG}{E:Nat->Rat}{cols k:Nat}{es:List IV}{V:Nat->Int}(e:EsOk g E cols k es V cols){b:Nat}(hb:b<cols){w:IV}{z:Int}(hw:ZIr g w z):EsOk g E cols k (es.set (k*cols+b) w) (fun x=>if x=b then z else V x) cols:=by
 have n:=e.len
 refine ⟨by simpa using n,fun a c d j=>?_,fun c d=>?_⟩
 ·obtain ⟨u,f,i⟩:=e.rows a c d j
  have m:=Bp d j
  exact ⟨u,by rw [bX (by omega)];exact f,i⟩
 ·by_cases l:c=b
  ·subst l
   exact ⟨w,by rw [bZ (by omega)],by show ZIr g w (if c=c then z else V c);rw [iP rfl];exact hw⟩
  ·obtain ⟨u,f,i⟩:=e.last c d
   exact ⟨u,by rw [bX (by omega)];exact f,by show ZIr g u (if c=b then z else V c);rw [iN l];exact i⟩
def EsOk.congr{g:aG}{E:Nat->Rat}{cols k j:Nat}{es:List IV}{V V':Nat->Int}(e:EsOk g E cols k es V j)(h:∀ b,b<j->V b=V' b):EsOk g E cols k es V' j:=
 ⟨e.len,e.rows,fun b a=>by rw [<- h b a];exact e.last b a⟩
def EsOk.next{g:aG}{E:Nat->Rat}{cols k:Nat}{es:List IV}{V:Nat->Int}(e:EsOk g E cols k es V cols)(h:∀ b,b<cols->V b=A65 E cols k b)(V':Nat->Int):EsOk g E cols (k+1) es V' 0:=by
 refine ⟨by rw [e.len,aM,aQ];rfl,fun a b d c=>?_,fun b d=>by omega⟩
 by_cases f:a=k
 ·subst f;rw [<- h b c];exact e.last b c
 ·exact e.rows a b (by omega) c
section
variable {h g:aG} {K:VP} {A:Option aL} {n c rows cols m:Nat} {E:Nat->Rat}
def A0p(gl:Gl h)(r:bK RQr h A (rows*cols) E)(hcap:rows*cols<=c)(hr:1<=rows)(hr2:rows<=10000)(hc:1<=cols)(hc2:cols<=10000)(hs:∀ i,i<rows*cols->Sz m (E i))(hm:1+cols*m+m<=6400000000)
 (hK:∀ h' g' o' T,h.le g'->Tab h' g' o' T (A65 E cols) (B2e E cols)->T.rows=rows->T.cols=cols->K (.pointer (some ⟨T.bt,0,none⟩)) h'):bC prog Gu #[.slice A (rows*cols) c,I (cols:Int)] h K:=by
 refine A5g _ _ _ _ ?_
 unfold A5h
 have cl:rows*cols<=100000000:=by
  have:rows*cols<=10000*10000:=bI hr2 hc2
  omega
 refine A79 ?_
 intro bt b0
 refine ⟨_,rfl,Dv (z:=.pointer none) (by kernel_rfl) ?_⟩
 intro W am
 have ba:W≠bt:=by rintro rfl;rw [C2] at am;cases am
 refine ⟨_,rfl,?_⟩
 refine Er (by kernel_rfl) (by kernel_rfl) rfl rfl (by decide) ?_
 have s0:=((Sep.refl h).new b0 (.cells (cN (.agg #[I (cols:Int),.slice none 0 0,.slice none 0 0])) Tw)).new am (.cells ((cN (.pointer none)).setIfInBounds 0 (.pointer (some ⟨bt,0,none⟩))) Qa)
 have n0:NT ((Bn.put bt (.cells (cN (.agg #[I (cols:Int),.slice none 0 0,.slice none 0 0])) Tw)).put W (.cells ((cN (.pointer none)).setIfInBounds 0 (.pointer (some ⟨bt,0,none⟩))) Qa)) W bt cols [] [] none 0 none 0:=
  ⟨⟨_,C2 _ _ _⟩,⟨_,by rw [B8 _ _ ba.symm,C2];rfl⟩,OwnSl.nil,OwnSl.nil,ba,⟨by simp,by simp⟩,⟨by simp,by simp⟩,fun b hb=>by cases hb⟩
 generalize (Bn.put bt (.cells (cN (.agg #[I (cols:Int),.slice none 0 0,.slice none 0 0])) Tw)).put W (.cells ((cN (.pointer none)).setIfInBounds 0 (.pointer (some ⟨bt,0,none⟩))) Qa)=o0 at s0 n0
 refine s0.call (Yz hc ?_)
 intro v g0 l0 ic cg s3
 have bound:∀ k,k<rows->∀ j,j<cols->Sz m (E (k*cols+j)):=fun k hk j hj=>hs _ (Bp hk hj)
 refine ⟨_,rfl,Uk ic hc (by omega) hcap (fun k N=>∃ (O o1:aG) (u:List IV) (C:List QV) (A1:Option aL) (c1:Nat) (A2:Option aL) (c2:Nat),g0.le O/\Sep N O o1/\NT o1 W bt cols u C A1 c1 A2 c2/\EsOk O E cols k u (fun _=>0) 0/\C.length=k/\Row RQr O C k (B2e E cols)) ?_ ?_ ?_ ?_⟩
 ·exact ⟨g0,o0,[],[],none,0,none,0,B4 _,s3,n0,⟨by simp,fun a b h1=>by omega,fun b h1=>by omega⟩,rfl,Row.nil⟩
 ·rintro k N ⟨O,o1,u,C,A1,c1,A2,c2,lg,s1,_⟩
  exact B0 lg s1.le
 ·rintro k cj aq ⟨O,o1,u,C,A1,c1,A2,c2,a9,s4,R,e1,D,rs⟩
  have bk:=bound k aq
  have cb:(k+1)*cols<=rows*cols:=aD _ aq
  have ck:(k+1)*cols=k*cols+cols:=by rw [aM,aQ]
  have b6:k<=k*cols:=Nat.le_mul_of_pos_right k hc
  have ai:=B0 l0 a9
  have a4:bK RQr h A ((k+1)*cols) E:=by
   have:=r.cut (c:=c) (l:=0) (k:=(k+1)*cols) (by omega) hcap
   rw [H9] at this
   exact this.congr fun i _=>by rw [aN]
  have af:bK RQr h (J9 A ((k+1)*cols) (k*cols) 4) cols (A3h E cols k):=a4.cut (c:=(k+1)*cols) (l:=k*cols) (k:=cols) (by omega) (aE _)
  refine ⟨_,_,_,rfl,s4.call (Ef (gl.mono ai) (af.mono K5 ai) (by omega) bk hm ?_)⟩
  intro sd Ad nd cd g2 l2 id cf s5
  have cE:=R.c1 s5
  rw [e1.len,dB] at cE
  have d2:=Lu (f:=A3h E cols k) cols bk
  have ao:1+cols*m<=1+cols*m+m:=by omega
  refine ⟨_,_,_,_,rfl,_,R.cp s5,_,rfl,_,_,_,cE,fun L N=>∃ (j:Nat) (s:Bool) (B:Option aL) (bn bc:Nat) (X o3:aG) (u:List IV) (A1:Option aL) (c1:Nat),j<=cols/\L=[I (j:Int),.bool s,.slice B bn bc]/\g2.le X/\Sep N X o3/\NT o3 W bt cols u C A1 c1 A2 c2/\EsOk X E cols k u (B34 E cols k) j/\ZI X s B bn bc (B6v E cols k j:Int),
   fun L _=>cols-(iAt L 0).toNat,⟨0,false,none,0,0,g2,o1,u,A1,c1,by omega,rfl,B4 _,s5,R,(e1.mono l2).congr (fun b hb=>by omega),ZI.zero⟩,?_⟩
  rintro z bs bA bn bc b9 ⟨j,sB,B,ch,b8,X,o3,ae,A3,c3,hj,eL,l3,s6,n3,e3,i3⟩
  simp only [bD,cC,cJ,aY,true_and,and_true] at eL
  obtain ⟨rfl,rfl,rfl,rfl,rfl⟩:=eL
  have b3:B5 ((j:Int)+1)=((j+1:Nat):Int):=by rw [B7]<;>omega
  have ad:=B0 ai (B0 l2 l3)
  refine B6 (fun bu=>?_) (fun bx=>?_)
  ·have F:j<cols:=by omega
   obtain ⟨a,w,ea,iw,q0,q1,q2,q3⟩:=af.qat F
   have ac:=B0 ad s6.le
   refine ⟨a,ea,by omega,by omega,_,_,_,_,_,_,_,_,B9 ac q0,B9 ac q1,B9 ac q2,B9 ac q3,?_⟩
   refine s6.call (Ln (m:=1+cols*m+m) (K5 _ _ _ _ ad iw) (id.mono l3) ((bk j F).mono (by omega)) (d2.mono ao) hm ?_)
   intro Z A7 n7 c7 g7 l7 i7 ay bw
   refine ⟨_,_,_,_,rfl,bw.call (Cr (gl.mono (B0 ad l7)).tz (i3.mono l7) i7 (B42 bk j hj) (A0i bk F) hm ?_)⟩
   intro A8 n8 c8 g8 l8 i8 al M
   have z7:ZIr g8 ⟨Z,A7,n7,c7⟩ (B34 E cols k j):=i7.mono l8
   have hF:∀ h' g' o' A2' G,g8.le g'->Sep h' g' o'->NT o' W bt cols (ae++[⟨Z,A7,n7,c7⟩]) C A2' G A2 c2->(∃ (j':Nat) (s:Bool) (B:Option aL) (bn bc:Nat) (X o3:aG) (u:List IV) (A1:Option aL) (c1:Nat),j'<=cols/\[I (B5 ((j:Int)+1)),.bool false,.slice A8 n8 c8]=[I (j':Int),.bool s,.slice B bn bc]/\g2.le X/\Sep h' X o3/\NT o3 W bt cols u C A1 c1 A2 c2/\EsOk X E cols k u (B34 E cols k) j'/\ZI X s B bn bc (B6v E cols k j':Int))/\cols-(iAt [I (B5 ((j:Int)+1)),.bool false,.slice A8 n8 c8] 0).toNat<cols-(iAt [I (j:Int),.bool bs,.slice bA bn bc] 0).toNat:=by
    intro h' g' o' A2' G H s' n'
    rw [b3]
    refine ⟨⟨j+1,false,A8,n8,c8,g',o',_,A2',G,by omega,rfl,B0 l3 (B0 l7 (B0 l8 H)),s',n',((e3.mono (B0 l7 l8)).push z7).mono H,i8.mono H⟩,by simp only [Ec];omega⟩
   have J:ae.length<=100000000:=by have:=e3.len;omega
   refine ⟨_,_,_,_,rfl,_,n3.cp M,_,rfl,_,_,_,n3.c1 M,⟨_,n3.cp M,?_⟩,?_⟩
   ·exact n3.buildE M ⟨Z,A7,n7,c7⟩ J hF fun B m d N lp cp p=>⟨_,_,_,rfl,lp,p fun A2 c2 h2 _ q=>⟨_,_,_,rfl,_,rfl,q⟩⟩
   ·exact n3.buildE M ⟨Z,A7,n7,c7⟩ J hF fun B m d N lp cp p=>⟨_,_,_,rfl,lp,⟨_,cp,p fun A2 c2 h2 _ q=>⟨_,_,_,rfl,_,rfl,q⟩⟩,p fun A2 c2 h2 ak q=>⟨_,_,_,rfl,_,ak,_,rfl,q⟩⟩
  ·have F:j=cols:=by omega
   subst F
   have hg:((B6v E j k j:Nat):Int)=0↔B6v E j k j=0:=by omega
   refine ⟨fun L N=>∃ (s:Bool) (B:Option aL) (bn bc:Nat) (g4:aG),L=[.bool s,.slice B bn bc]/\X.le g4/\Sep N g4 o3/\ZI g4 s B bn bc (Yy E j k:Int),?_,?_⟩
   ·refine s6.call (G0 i3 ?_)
    intro ay Z
    refine ⟨_,rfl,B6 (fun e=>?_) (fun e=>?_)⟩
    ·refine Z.call (Ek (by omega) (by omega) ?_)
     intro S A8 n8 c8 g8 l8 i8 al M
     refine ⟨_,_,_,_,rfl,_,_,_,_,g8,rfl,l8,M,?_⟩
     have:Yy E j k=1:=by unfold Yy;rw [iP (hg.1 e)]
     rw [this];exact i8
    ·refine ⟨_,_,_,_,X,rfl,B4 _,Z,?_⟩
     have:Yy E j k=B6v E j k j:=by unfold Yy;rw [iN (fun x=>e (hg.2 x))]
     rw [this];exact i3
   ·rintro cs cA cn cc ay ⟨bg,bj,bi,bf,g4,eL,l4,Z,ic⟩
    obtain ⟨rfl,rfl,rfl,rfl⟩:cs=bg/\cA=bj/\cn=bi/\cc=bf:=by simpa using eL
    have e4:=e3.mono l4
    have bd:=n3.c1 Z
    rw [e4.len] at bd
    have ax:ae≠[]:=by rintro rfl;have:=e4.len;simp at this;omega
    obtain ⟨Q,aj,rB⟩:=n3.oe.rowB ax
    subst aj
    have ci:k*j+j<=c3:=by have:=n3.oe.1;rw [e4.len] at this;exact this
    have au:(((k*j:Nat):Int)).toNat=k*j:=rfl
    have a8:J9 (some ⟨Q,0,none⟩) c3 ((((k*j:Nat):Int)).toNat) 2=some ⟨Q,k*j*2,none⟩:=by rw [au,A4k (by omega),E5,aN]
    have a5:k*j+j-(((k*j:Nat):Int)).toNat=j:=by rw [au];omega
    refine ⟨_,n3.cp Z,_,rfl,_,_,_,bd,⟨by omega,by omega⟩,?_⟩
    rw [a8,a5]
    refine ⟨fun L N=>∃ (n:Nat) (g o:aG) (u:List IV),n<=j/\L=[I (n:Int)]/\g4.le g/\Sep N g o/\NT o W bt j u C (some ⟨Q,0,none⟩) c3 A2 c2/\EsOk g E j k u (fun b=>if b<n then A65 E j k b else B34 E j k b) j,fun L _=>j-(iAt L 0).toNat,⟨0,g4,o3,ae,by omega,rfl,B4 _,Z,n3,e4.congr fun b hb=>by rw [iN (by omega)]⟩,?_⟩
    rintro z al ⟨n,g5,o5,V,ce,eL,l5,S,t,e5⟩
    obtain rfl:=sI1 eL
    have az:B5 ((n:Int)+1)=((n+1:Nat):Int):=by rw [B7]<;>omega
    have bo:B5 (((k*j:Nat):Int)+(n:Int))=((k*j+n:Nat):Int):=by rw [B7]<;>omega
    have a0:=t.c1 S
    rw [e5.len] at a0
    have bv:=Tt E j k
    refine B6 (fun bu=>?_) (fun bx=>?_)
    ·have F:n<j:=by omega
     obtain ⟨w,ew,iw⟩:=e5.last n F
     rw [iN (aS n)] at iw
     obtain ⟨ca,ah,bh⟩:=t.oe.rowB (by rintro rfl;have:=e5.len;simp at this;omega)
     simp only [aR,bH,and_true] at ah
     subst ah
     have aa:k*j+n<V.length:=by have:=e5.len;omega
     have bz:V[k*j+n]=w:=by
      rw [aI aa] at ew
      cases ew;rfl
     have ha:k*j*2+n*2=(k*j+n)*2:=by rw [aM]
     have cell:∀ x v,(enc w)[x]? = some v->al.cell? (aF (aF ⟨Q,k*j*2,none⟩ (((n:Int)).toNat*2)) x)=some v:=by
      intro x v hx
      refine S.cell ?_
      rw [E5,E5]
      show o5.cell? ⟨Q,k*j*2+n*2+x,none⟩=_
      rw [ha]
      exact bh.cell aa (by rw [bz];exact hx)
     refine ⟨_,rfl,by omega,by omega,_,_,_,_,cell 0 _ rfl,cell 1 _ rfl,_,t.cp S,_,rfl,_,_,_,a0,?_⟩
     refine S.call (Q7 iw (ic.mono l5) (A0i bk F) (A1x bk) hm (by omega) ?_)
     intro s9 A9 n9 c9 g9 l9 i9 av a7
     refine ⟨_,_,_,_,rfl,S.le_le a7 l9,_,rfl,by omega,by omega,?_⟩
     rw [bo]
     refine OwnSl.store A08 (y:=(⟨s9,A9,n9,c9⟩:IV)) rfl a7 t.oe aa rfl ?_
     intro b7 br be bb ko
     obtain ⟨x1,b4⟩:=t.hp
     obtain ⟨x2,an⟩:=t.ht
     have b1:W≠Q:=fun e=>t.a1.1 (by rw [e])
     have b2:bt≠Q:=fun e=>t.a1.2 (by rw [e])
     rw [az]
     refine ⟨⟨n+1,g9,br,V.set (k*j+n) ⟨s9,A9,n9,c9⟩,by omega,rfl,B0 l5 l9,be,⟨⟨x1,by rw [ko _ b1];exact b4⟩,⟨x2,by rw [ko _ b2,bO];exact an⟩,bb,t.os.keep fun b x hb hx=>by rw [ko b (fun e=>t.a3 Q rfl (by rw [<- e];exact hb))];exact hx,t.ne,t.a1,t.a2,t.a3⟩,((e5.mono l9).set F (show ZIr g9 ⟨s9,A9,n9,c9⟩ (A65 E j k n) from i9)).congr fun b hb=>?_⟩,by simp only [Ec];omega⟩
     show (if b=n then A65 E j k n else if b<n then A65 E j k b else B34 E j k b)=if b<n+1 then A65 E j k b else B34 E j k b
     by_cases eb:b=n
     ·subst eb;rw [iP rfl,iP (by omega)]
     ·rw [iN eb]
      by_cases h7:b<n
      ·rw [iP h7,iP (by omega)]
      ·rw [iN h7,iN (by omega)]
    ·have bm:n=j:=by omega
     subst bm
     have eN:EsOk g5 E n (k+1) V (fun _=>0) 0:=e5.next (fun b hb=>by rw [iP hb]) _
     have sS:=B2d (E:=E) (cols:=n) (i:=k) bk
     have fr:∀ (gg:aG) (w:QV),g5.le gg->RQ gg w (cH (Bo (A3h E n k) n:Int) (Yy E n k:Int))->∀ h' g' o' A2' G,gg.le g'->Sep h' g' o'->NT o' W bt n V (C++[w]) (some ⟨Q,0,none⟩) c3 A2' G->∃ (O o1:aG) (u:List IV) (C:List QV) (A1:Option aL) (c1:Nat) (A2:Option aL) (c2:Nat),g0.le O/\Sep h' O o1/\NT o1 W bt n u C A1 c1 A2 c2/\EsOk O E n (k+1) u (fun _=>0) 0/\C.length=k+1/\Row RQr O C (k+1) (B2e E n):=by
      intro gg w ar iw h' g' o' A2' G H s' n'
      have ag:O.le g':=B0 l2 (B0 l3 (B0 l4 (B0 l5 (B0 ar H))))
      refine ⟨g',o',V,C++[w],_,c3,A2',G,B0 a9 ag,s',n',eN.mono (B0 ar H),by simp [D],?_⟩
      have bq:Row RQr g' C C.length (B2e E n):=by rw [D];exact rs.mono K5 ag
      have:=bq.push (w:=w) (by rw [D];exact K5 _ _ _ _ H iw)
      rw [aC,D] at this
      exact this
     have aw:=(gl.mono (B0 ad (B0 l4 l5))).tz
     have a6:=(id.mono (B0 l3 (B0 l4 l5)))
     have ap:C.length<=100000000:=by omega
     refine ⟨_,t.cp S,_,rfl,_,_,_,t.c2 S,⟨_,t.cp S,?_⟩,?_⟩
     ·refine S.call (Bv aw a6 (ic.mono l5) (d2.mono ao) (A1x bk) hm ?_)
      intro w gf lf iw av s9
      refine ⟨_,_,_,_,_,_,_,_,rfl,S.le_le s9 lf,?_⟩
      exact t.buildS s9 w ap (fr gf w lf iw) fun B m d N lp cp p=>⟨_,_,_,rfl,lp,p fun A2 c2 h2 _ q=>⟨_,_,_,rfl,_,rfl,q⟩⟩
     ·refine S.call (Bv aw a6 (ic.mono l5) (d2.mono ao) (A1x bk) hm ?_)
      intro w gf lf iw av s9
      refine ⟨_,_,_,_,_,_,_,_,rfl,S.le_le s9 lf,⟨_,t.cp s9,?_⟩,?_⟩
      ·exact t.buildS s9 w ap (fr gf w lf iw) fun B m d N lp cp p=>⟨_,_,_,rfl,lp,p fun A2 c2 h2 _ q=>⟨_,_,_,rfl,_,rfl,q⟩⟩
      ·exact t.buildS s9 w ap (fr gf w lf iw) fun B m d N lp cp p=>⟨_,_,_,rfl,lp,⟨_,cp,p fun A2 c2 h2 _ q=>⟨_,_,_,rfl,_,rfl,q⟩⟩,p fun A2 c2 h2 ak q=>⟨_,_,_,rfl,_,ak,_,rfl,q⟩⟩
 ·rintro N ⟨O,o1,u,C,A1,c1,A2,c2,lg,s1,R,e1,D,rs⟩
  refine ⟨_,R.cp s1,?_⟩
  have J:u.length=rows*cols:=by rw [e1.len];rfl
  have b5:0<rows*cols:=Nat.mul_pos (by omega) (by omega)
  obtain ⟨Q,aj,rE⟩:=R.oe.rowB (by rintro rfl;simp at J;omega)
  obtain ⟨bS,bl,rS⟩:=R.os.rowB (by rintro rfl;simp at D;omega)
  subst aj bl
  obtain ⟨x2,an⟩:=R.ht
  refine hK N O o1 ⟨bt,Q,bS,rows,cols,c1,c2⟩ (B0 l0 lg) ⟨s1,fun (e:bt=Q)=>R.a1.2 (by rw [<- e]),fun (e:bt=bS)=>R.a2.2 (by rw [<- e]),fun (e:Q=bS)=>R.a3 Q rfl (by rw [e]),⟨x2,by rw [an,J,D]⟩,⟨u,rE,J,fun i j hi hj=>e1.rows i j hi hj⟩,⟨C,rS,D,rs⟩,by rw [<- J];exact R.oe.1,by rw [<- D];exact R.os.1,⟨hr2,hc2⟩,hc⟩ rfl rfl
end
structure MOk (r c:Int) (n:Nat) (ls:Nat->List UInt8) (rows cols:Nat):Prop where
 er:r=rows
 ec:c=cols
 r1:1<=rows
 r2:rows<=64
 c1:1<=cols
 c2:cols<=64
 len:n=rows*cols
 num:∀ i,i<n->cV (ls i)
def B5t(r c:Int)(n:Nat):Prop:=1<=r/\r<=64/\1<=c/\c<=64/\(n:Int)=r*c
def MOk.of{r c:Int}{n:Nat}{ls:Nat->List UInt8}(s:B5t r c n)(h:∀ i,i<n->cV (ls i)):MOk r c n ls r.toNat c.toNat:=by
 obtain ⟨e,f,g,d,j⟩:=s
 refine ⟨by omega,by omega,by omega,by omega,by omega,by omega,?_,h⟩
 have a:(r.toNat:Int)=r:=by omega
 have b:(c.toNat:Int)=c:=by omega
 have:((r.toNat*c.toNat:Nat):Int)=r*c:=by rw [bF,a,b]
 omega
def MOk.shape{r c:Int}{n:Nat}{ls:Nat->List UInt8}{rows cols:Nat}(m:MOk r c n ls rows cols):B5t r c n:=by
 obtain ⟨rfl,rfl,d,e,f,b,a,_⟩:=m
 exact ⟨by omega,by omega,by omega,by omega,by rw [a,bF]⟩
abbrev Ys(r c:Int)(A:Option aL)(n cap:Nat):cG:=.agg #[I r,I c,.slice A n cap]
def Mx(r c:Int)(n:Nat)(ls:Nat->List UInt8):Prop:=∃ rows cols,MOk r c n ls rows cols
def A5f{r c:Int}{n:Nat}{ls:Nat->List UInt8}:Mx r c n ls↔B5t r c n/\∀ i,i<n->cV (ls i):=by
 constructor
 ·rintro ⟨a,b,m⟩;exact ⟨m.shape,m.num⟩
 ·rintro ⟨s,h⟩;exact ⟨_,_,MOk.of s h⟩
section
variable {h:aG} {K:VP} {A:Option aL} {n cap m:Nat} {r c:Int} {ls:Nat->List UInt8}
def Og(hn:n<=1000000000)(hK1:B5t r c n->K (.bool true) h)(hK0:¬ B5t r c n->K (.bool false) h):bC prog Gv #[Ys r c A n cap] h K:=by
 refine A5i _ _ _ _ _ ?_
 unfold A5j
 refine B6 (fun g=>B6 (fun d=>B6 (fun j=>B6 (fun b=>?_) (fun e=>hK0 fun s=>e s.2.2.2.1)) (fun e=>hK0 fun s=>e s.2.2.1)) (fun e=>hK0 fun s=>e s.2.1)) (fun e=>hK0 fun s=>e s.1)
 have i:r*c<=64*64:=Int.mul_le_mul d b (by omega) (by omega)
 have a:0<=r*c:=Int.mul_nonneg (by omega) (by omega)
 have f:B5 (r*c)=r*c:=B7 (by omega) (by omega)
 rw [f]
 by_cases e:(n:Int)=r*c
 ·rw [show ((n:Int)==r*c)=true by simpa using e]
  exact hK1 ⟨g,d,j,b,e⟩
 ·rw [show ((n:Int)==r*c)=false by simpa using e]
  exact hK0 fun s=>e s.2.2.2.2
def Ev(gl:Gl h)(rv':bK SSr h A n ls)(hn:n<=1000000)(hl:LL n ls)
 (hK1:∀ rows cols,MOk r c n ls rows cols->∀ b h',Own RQr h h' b n (fun i=>rv (ls i))->K (.tuple #[.slice (some ⟨b,0,none⟩) n n,.bool true]) h')
 (hK0:¬ Mx r c n ls->∀ h',h.le h'->K (.tuple #[.slice none 0 0,.bool false]) h'):bC prog Qu #[Ys r c A n cap] h K:=by
 refine B9g _ _ _ _ _ ?_
 unfold C5n
 refine Og (by omega) (fun s=>⟨_,rfl,?_⟩) (fun s=>⟨_,rfl,hK0 (fun x=>s (A5f.1 x).1) h (B4 _)⟩)
 refine Al gl rv' hn hl (fun a b h' w=>⟨_,_,_,_,rfl,hK1 _ _ (MOk.of s a) b h' w⟩) (fun d h' l=>⟨_,_,_,_,rfl,hK0 (fun x=>d (A5f.1 x).2) h' l⟩)
def Us(gl:Gl h)(rv':bK SSr h A n ls)(hn:n<=1000000)(hl:LL n ls)
 (hK1:Mx r c n ls->K (.bool true) h) (hK0:¬ Mx r c n ls->K (.bool false) h):bC prog Tm #[Ys r c A n cap] h K:=by
 refine B6e _ _ _ _ _ ?_
 unfold C0s
 refine Og (by omega) (fun s=>⟨_,rfl,?_⟩) (fun s=>⟨_,rfl,hK0 (fun x=>s (A5f.1 x).1)⟩)
 refine ⟨fun L g=>∃ k:Nat,k<=n/\L=[I k]/\g=h/\∀ i,i<k->cV (ls i),fun L _=>n-(iAt L 0).toNat,⟨0,by omega,rfl,rfl,fun i j=>by omega⟩,?_⟩
 rintro t g ⟨k,q,p,rfl,b⟩
 obtain rfl:=sI1 p
 refine B6 (fun l=>?_) (fun m=>?_)
 ·have d:k<n:=by omega
  obtain ⟨a,rfl,o⟩:=rv'.sat d
  refine ⟨a,rfl,by omega,by omega,_,o,Ch gl (hl k d) (fun f=>⟨_,rfl,?_⟩) (fun f=>⟨_,rfl,hK0 (fun y=>f ((A5f.1 y).2 k d))⟩)⟩
  rw [wiS k (by omega)]
  refine ⟨⟨k+1,by omega,rfl,rfl,fun i j=>?_⟩,by simp only [Ec];omega⟩
  by_cases e:i=k
  ·subst e;exact f
  ·exact b i (by omega)
 ·have:k=n:=by omega
  subst this
  exact hK1 (A5f.2 ⟨s,b⟩)
def A6m{f:Nat->Rat}(gl:Gl h)(rq:bK RQr h A n f)(hn:n<=1000000)(hs:∀ i,i<n->Sz m (f i))(hm:m<=40000000)
 (hK:∀ b h',Own SSr h h' b n (fun i=>H1 (f i))->K (Ys r c (some ⟨b,0,none⟩) n n) h'):bC prog A1i #[I r,I c,.slice A n cap] h K:=by
 refine B6d _ _ _ _ _ ?_
 unfold C0r
 exact Ig gl rq hn hs hm fun b h' w=>⟨_,_,_,rfl,hK b h' w⟩
end
end Go.Proofs.YtmbfcbbkbefgfaaGreatDoor
namespace Go.Proofs.YtmbfcbbkbefgfaaGreatDoor
set_option maxRecDepth 20000
def ZrE(n c:Nat)(s:ES):Prop:=∀ i j,i<n->s.cs.length<=i->j<c->s.R i j=0
def Yg(n c:Nat)(s:ES)(h:s.cs.length<=n):s.cs.length<=Ht n c s/\Ht n c s<=n/\(Ht n c s<n->s.R (Ht n c s) c≠0)/\(∀ i,s.cs.length<=i->i<Ht n c s->s.R i c=0):=by
 have d:=A46 (fun i=>decide (s.R i c≠0)) (n-s.cs.length) s.cs.length
 have a:=Th (fun i=>decide (s.R i c≠0)) (n-s.cs.length) s.cs.length
 have b:=A0x (fun i=>decide (s.R i c≠0)) (n-s.cs.length) s.cs.length
 have g:fnd (fun i=>decide (s.R i c≠0)) (n-s.cs.length) s.cs.length=Ht n c s:=rfl
 rw [g] at d a b
 refine ⟨d.1,by omega,fun j=>?_,fun i e f=>?_⟩
 ·have:=b (by omega);simpa using this
 ·have:=a i e f;simpa using this
def B88{R:Nat->Nat->Rat}{k c:Nat}(hz:∀ b,b<c->R k b=0):elimE R k c=Cd R k c:=by
 funext a b
 unfold elimE Cd
 by_cases e:a=k
 ·rw [iP e,iP e]
 ·rw [iN e,iN e]
  split
  ·rename_i d
   rcases d with d|d
   ·rw [d];grind
   ·rw [hz b d];grind
  ·rfl
structure EqA (n w c:Nat) (A:Nat->Nat->Rat) (s:ES):Prop where
 len:s.cs.length<=n
 zero:ZrE n c s
 lt:∀ x∈s.cs,x<c
 elim:∃ B,Elim n w B s.R (fun m=>s.cs.getD m 0) s.cs.length/\(∀ i,i<n->∃ i',i'<n/\∀ j,B i' j=A i j)/\(∀ i,i<n->∃ i',i'<n/\∀ j,B i j=A i' j)
 comb:∃ T:Nat->Nat->Rat,∀ i j,i<n->j<w->s.R i j=sm n fun l=>T i l*A l j
def A5s{k l i:Nat}:xch k l (xch k l i)=i:=by unfold xch;repeat' split
                                             all_goals omega
def EqA.start(n w:Nat)(A:Nat->Nat->Rat):EqA n w 0 A ⟨A,[],1⟩:=by
 refine ⟨bL _,fun i j _ _ d=>by omega,fun x c=>(by cases c),⟨A,Elim.start,fun i a=>⟨i,a,fun _=>rfl⟩,fun i a=>⟨i,a,fun _=>rfl⟩⟩,⟨fun i l=>if l=i then 1 else 0,fun i j a _=>?_⟩⟩
 show A i j=sm n fun l=>(if l=i then (1:Rat) else 0)*A l j
 rw [Ud a fun l _ b=>by rw [iN b,aZ],iP rfl,cW]
def EqA.step{n w c:Nat}{A:Nat->Nat->Rat}{s:ES}(h:EqA n w c A s)(hc:c<w):EqA n w (c+1) A (Gb n c s):=by
 obtain ⟨J,f2,W,S⟩:=Yg n c s h.len
 unfold Gb
 by_cases z:s.cs.length<n
 ·rw [iP z]
  by_cases p:Ht n c s<n
  ·rw [iP p]
   have F:=W p
   generalize Ht n c s=r at *
   obtain ⟨B,E,D,C⟩:=h.elim
   obtain ⟨T,Q⟩:=h.comb
   have V:∀ b,b<c->s.R r b=0:=fun b H=>h.zero r b p J H
   have y:=Sy s.cs.length r
   have o:∀ i,i<n->xch s.cs.length r i<n:=fun i d=>Rl z p d
   have u:(s.cs++[c]).length=s.cs.length+1:=by simp
   have N:elimE (fun i=>s.R (xch s.cs.length r i)) s.cs.length c=Cd (fun i=>s.R (xch s.cs.length r i)) s.cs.length c:=B88 fun b H=>by rw [y];exact V b H
   refine ⟨by show (s.cs++[c]).length<=n;omega,fun i j d k t=>?_,fun x a=>?_,⟨fun i=>B (xch s.cs.length r i),?_,fun i d=>?_,fun i d=>?_⟩,?_⟩
   ·show elimE (fun i=>s.R (xch s.cs.length r i)) s.cs.length c i j=0
    have O:s.cs.length+1<=i:=by have:(s.cs++[c]).length<=i:=k;omega
    have G:=B1s (i:=i) J (show s.cs.length<=i by omega)
    unfold elimE
    rw [iN (by omega)]
    simp only [y]
    by_cases e:j=c
    ·subst e
     split
     ·rename_i q
      rcases q with q|q
      ·exact q
      ·omega
     ·grind
    ·rw [iP (.inr (by omega))]
     exact h.zero _ j (o i d) G (by omega)
   ·rcases List.mem_append.1 a with a|a
    ·have:=h.lt x a;omega
    ·simp at a;omega
   ·show Elim n w _ (elimE (fun i=>s.R (xch s.cs.length r i)) s.cs.length c) _ (s.cs++[c]).length
    rw [N,u]
    refine ((E.swap J p).cs_congr fun m hm=>(Va s.cs c m hm).symm).step z hc (Vb _ _) ?_
    show s.R (xch s.cs.length r s.cs.length) c≠0
    rw [y];exact F
   ·obtain ⟨L,q,X⟩:=D i d
    exact ⟨xch s.cs.length r L,o L q,fun j=>by show B (xch _ _ (xch _ _ L)) j=_;rw [A5s];exact X j⟩
   ·exact C _ (o i d)
   ·refine ⟨fun i l=>if i=s.cs.length then T r l/s.R r c else T (xch s.cs.length r i) l-s.R (xch s.cs.length r i) c*(T r l/s.R r c),fun i j d t=>?_⟩
    show elimE (fun i=>s.R (xch s.cs.length r i)) s.cs.length c i j=_
    rw [N]
    unfold Cd
    simp only [y]
    have M:sm n (fun l=>T r l/s.R r c*A l j)=s.R r j/s.R r c:=by
     rw [Q r j p t,aV,aW _ (s.R r c)⁻¹,<- Hh]
     exact C8 fun l _=>by rw [aV];grind
    by_cases e:i=s.cs.length
    ·simp only [iP e]
     exact M.symm
    ·simp only [iN e]
     have Z:=Q (xch s.cs.length r i) j (o i d) t
     rw [<- M,Z,<- Hh]
     have:∀ f g:Nat->Rat,sm n f-sm n g=sm n fun l=>f l-g l:=fun f g=>by
      rw [dE,<- Ue,<- Ii]
      exact C8 fun l _=>(dE _ _).symm
     rw [this]
     exact C8 fun l _=>by grind
  ·rw [iN p]
   refine ⟨h.len,fun i j d k t=>?_,fun x a=>by have:=h.lt x a;omega,h.elim,h.comb⟩
   show s.R i j=0
   by_cases e:j=c
   ·rw [e];exact S i k (by omega)
   ·exact h.zero i j d k (by omega)
 ·rw [iN z]
  exact ⟨h.len,fun i j d k t=>by omega,fun x a=>by have:=h.lt x a;omega,h.elim,h.comb⟩
def EqA.run{n w:Nat}(A:Nat->Nat->Rat):∀ c,c<=w->EqA n w c A (A8d n ⟨A,[],1⟩ c):=by
 intro c
 induction c with
 | zero=>exact fun _=>EqA.start n w A
 | succ c ih=>exact fun a=>(ih (by omega)).step (by omega)
def Xe(x:Nat->Rat)(f:Nat->Rat):Nat->List Nat->Nat->Rat
 | _,[]=>x
 | i,c::cs=>Xe (fun j=>if j=c then f i else x j) f (i+1) cs
def B05(f:Nat->Rat):∀ (cs:List Nat) (x:Nat->Rat) (i j:Nat),j∉cs->Xe x f i cs j=x j:=by
 intro cs
 induction cs with
 | nil=>intros;rfl
 | cons c cs ih=>
  intro x i j a
  rw [Xe,ih _ _ _ fun h=>a (List.mem_cons_of_mem _ h)]
  show (if j=c then f i else x j)=x j
  rw [iN fun e=>a (by rw [e];exact List.mem_cons_self ..)]
def B2n(f g:Nat->Rat){w:Nat}{cs:List Nat}(nd:cs.Nodup)(hlt:∀ x∈cs,x<w):sm w (fun j=>g j*Xe (fun _=>0) f 0 cs j)=sm cs.length fun m=>g (cs.getD m 0)*f m:=by
 induction hl:cs.length generalizing cs with
 | zero=>
  have:cs=[]:=bY hl
  subst this
  rw [sm]
  exact T4 fun j _=>by show g j*(0:Rat)=0;exact aT _
 | succ k ih=>
  obtain ⟨ds,d,rfl⟩:∃ ds d,cs=ds++[d]:=⟨cs.dropLast,cs.getLast (by intro e;rw [e] at hl;cases hl),(List.dropLast_concat_getLast _).symm⟩
  have a:ds.length=k:=by simpa using hl
  rw [List.nodup_append] at nd
  have p:d∉ds:=fun h=>nd.2.2 d h d (by simp) rfl
  have s:∀ j,Xe (fun _=>0) f 0 (ds++[d]) j=(if j=d then f k else 0)+Xe (fun _=>0) f 0 ds j:=by
   intro j
   have key:∀ (l:List Nat) (x:Nat->Rat) (i:Nat),d∉l->Xe x f i (l++[d]) j=if j=d then f (i+l.length) else Xe x f i l j:=by
    intro l
    induction l with
    | nil=>intro x i _;rfl
    | cons c l ih=>
     intro x i n
     rw [List.cons_append,Xe,ih _ _ fun h=>n (List.mem_cons_of_mem _ h),Xe,cL]
     have:i+1+l.length=i+(l.length+1):=by omega
     rw [this]
   rw [key ds _ 0 p,aN,a]
   by_cases e:j=d
   ·rw [iP e,iP e,e,B05 f ds _ _ _ p];exact (bV _).symm
   ·rw [iN e,iN e];exact (dA _).symm
  have t:sm w (fun j=>g j*Xe (fun _=>0) f 0 (ds++[d]) j)=sm w (fun j=>g j*(if j=d then f k else 0))+sm w fun j=>g j*Xe (fun _=>0) f 0 ds j:=by
   rw [<- Ii];exact C8 fun j _=>by rw [s];grind
  have b:d<w:=hlt d (by simp)
  rw [t,ih nd.1 (fun x q=>hlt x (by simp [q])) a,Ud b fun j _ o=>by rw [iN o,aT],iP rfl,sm]
  have r:(ds++[d]).getD k 0=d:=by rw [<- a];exact Vb _ _
  rw [r,Rat.add_comm]
  congr 1
  exact C8 fun m u=>by rw [Va ds d m (by omega)]
def EqA.none{n w:Nat}{A:Nat->Nat->Rat}{s:ES}(h:EqA n (w+1) w A s){i:Nat}(hi:i<n)(hk:s.cs.length<=i)(hne:s.R i w≠0):∃ y:Nat->Rat,(∀ j,j<w->sm n (fun l=>y l*A l j)=0)/\sm n (fun l=>y l*A l w)=1:=by
 obtain ⟨T,c⟩:=h.comb
 have b:∀ j,j<w+1->sm n (fun l=>T i l/s.R i w*A l j)=s.R i j/s.R i w:=by
  intro j a
  rw [c i j hi a,aV,aW _ (s.R i w)⁻¹,<- Hh]
  exact C8 fun l _=>by rw [aV];grind
 refine ⟨fun l=>T i l/s.R i w,fun j a=>?_,?_⟩
 ·rw [b j (by omega),h.zero i j hi hk a];grind
 ·rw [b w (by omega)];grind
def EqA.sol{n w:Nat}{A:Nat->Nat->Rat}{s:ES}(h:EqA n (w+1) w A s)(nd:s.cs.Nodup)(h0:∀ i,i<n->s.cs.length<=i->s.R i w=0){i:Nat}(hi:i<n):sm w (fun j=>A i j*Xe (fun _=>0) (fun m=>s.R m w) 0 s.cs j)=A i w:=by
 obtain ⟨B,E,c,_⟩:=h.elim
 obtain ⟨b,a,e⟩:=c i hi
 rw [B2n _ _ nd h.lt]
 rw [<- e w,C8 (g:=fun m=>B b (s.cs.getD m 0)*s.R m w) fun m _=>by rw [e]]
 by_cases d:b<s.cs.length
 ·exact (E.top b w d (by omega)).symm
 ·rw [E.bot b w a (by omega) (by omega),h0 b a (by omega),dA]
def mtx(E:Nat->Rat)(cols:Nat):Nat->Nat->Rat:=fun i j=>E (i*cols+j)
def elE(E:Nat->Rat)(rows cols c:Nat):ES:=A8d rows ⟨mtx E cols,[],1⟩ c
def elP(E:Nat->Rat)(rows cols c:Nat):PS:=Cw rows ⟨A65 E cols,B2e E cols,[],1,1⟩ c
def B4k(E:Nat->Rat){rows cols c:Nat}(hc:c<=cols):ERel rows cols c (mtx E cols) (elE E rows cols c) (elP E rows cols c):=
 (ERel.start (fun i j _ a=>C19 E cols i a) (fun i _=>by have:=B78 E cols i;grind)).run c hc
def C27(E:Nat->Rat){rows cols c:Nat}(hc:c<=cols):(elP E rows cols c).cs=(elE E rows cols c).cs:=(B4k E hc).cs.symm
def C4l(E:Nat->Rat){rows cols c:Nat}(hc:c<=cols){i j:Nat}(hi:i<rows)(hj:j<cols)(h:i<(elE E rows cols c).cs.length\/j<c):cH ((elP E rows cols c).M i j) (elP E rows cols c).last=(elE E rows cols c).R i j:=by
 have r:=B4k E hc (rows:=rows)
 have b:=r.val i j hi hj
 have d:=X8 r.last
 rw [cQ,b]
 by_cases a:i<(elE E rows cols c).cs.length
 ·rw [iP a,aW,aV,dT,Rat.mul_inv_cancel _ d,Rat.mul_one]
 ·rw [iN a,r.zero i j hi (by omega) (by omega),aT,aT]
  rw [aV,aZ]
def bnd(cols m:Nat):Nat:=1+cols*m+m
def C4k{E:Nat->Rat}{rows cols m:Nat}(h:∀ i,i<rows*cols->Sz m (E i)):ZbP rows cols (bnd cols m) (bnd cols m) ⟨A65 E cols,B2e E cols,[],1,1⟩:=by
 have e:∀ i,i<rows->∀ j,j<cols->Sz m (E (i*cols+j)):=fun i f j g=>h _ (Bp f g)
 refine ⟨fun a b d c=>?_,?_,fun a d=>B2d (e a d),bL _⟩
 ·show ZB (3^0*bnd cols m) (A65 E cols a b)
  rw [dY,aQ];exact C18 (e a d) c
 ·show ZB (3^0*bnd cols m) 1
  exact ZB.one (by unfold bnd;omega)
def C4j{E:Nat->Rat}{rows cols m c:Nat}(h:∀ i,i<rows*cols->Sz m (E i))(hc:c<=cols):ZbP rows cols (bnd cols m) (bnd cols m) (elP E rows cols c):=(C4k h).run (by unfold bnd;omega) c hc
def C26(E:Nat->Rat)(rows cols c:Nat):(elP E rows cols c).last≠0:=(A3f rows _ (show (1:Int)≠0 by decide) (.inl rfl) (bL _) c).1
structure Own2 (h h':aG) (b n:Nat) (f:Nat->List UInt8) (A:Option aL) (cap:Nat) (l:List Int):Prop where
 ex:∃ g o xs,h.le g/\Sep h' g o/\RowX o b xs/\xs.length=n/\Row SSr g xs n f/\OwnSl o F2 A cap l/\A≠some ⟨b,0,none⟩
section
variable {h g o:aG} {T:Tb} {M:Nat->Nat->Int} {S:Nat->Rat}
end
section
variable {h:aG} {K:VP} {A:Option aL} {n cap m:Nat} {r c:Int} {ls:Nat->List UInt8}
abbrev rvs(ls:Nat->List UInt8):Nat->Rat:=fun i=>rv (ls i)
def A36{E:Nat->Rat}{rows cols cc nq:Nat}(gl:Gl h)(rq:bK RQr h A (rows*cols) E)(hcap:rows*cols<=cap)(hr:1<=rows)(hr2:rows<=10000)(hc:1<=cols)(hc2:cols<=10000)(hcc:cc<=cols)(hs:∀ i,i<rows*cols->Sz m (E i))(hnq:∀ k,k<=cc->(elP E rows cols k).cs.length<=nq)(hm:2*(3^nq*bnd cols m)+1<=100000000){K:VP}
 (hK:∀ T h1,bC prog Oz #[.pointer (some ⟨T.bt,0,none⟩),I (cc:Int)] h1 (fun r h'=>∃ g' o' A' cap' w,h.le g'/\Tab h' g' o' T (elP E rows cols cc).M (elP E rows cols cc).S/\OwnSl o' F2 A' cap' (zs (elP E rows cols cc).cs)/\C3l T A'/\ZIr g' w (elP E rows cols cc).last/\
  r= .tuple #[.slice A' (elP E rows cols cc).cs.length cap',w.v,I (elP E rows cols cc).sgn])->h.le h1->T.rows=rows->T.cols=cols->K (.pointer (some ⟨T.bt,0,none⟩)) h1):bC prog Gu #[.slice A (rows*cols) cap,I (cols:Int)] h K:=by
 have h1:bnd cols m<=3^nq*bnd cols m:=eA _ (dC (by decide))
 have s:bnd cols m=1+cols*m+m:=rfl
 refine A0p (m:=m) gl rq hcap hr hr2 hc hc2 hs (by omega) ?_
 intro h' g' o' T f t a d
 refine hK T h' ?_ (B0 f t.sep.le) a d
 have c:=C4k hs
 rw [<- a,<- d] at c
 refine A3m (m:=bnd cols m) (l:=bnd cols m) t (by omega) (by unfold bnd;omega) (by rw [a];exact hnq) hm (by rw [a] at c ⊢;rw [d] at c ⊢;exact c) ?_
 intro s o n A2 b w p g e q u j
 rw [a] at g e j ⊢
 exact ⟨o,n,A2,b,w,B0 f p,g,e,q,j,rfl⟩
end
section
variable {h:aG} {K:VP} {A:Option aL} {n cap m:Nat} {r c:Int} {ls:Nat->List UInt8}
end
section
variable {h:aG} {K:VP} {A:Option aL} {n cap m:Nat} {r c:Int} {ls:Nat->List UInt8}
end
structure HV where
 A:Option aL
 n:Nat
 c:Nat
abbrev HV.v(s:HV):cG:=.slice s.A s.n s.c
instance:Enc HV:=⟨⟨fun s=>[.slice s.A s.n s.c],1,fun _=>rfl,fun s v hv=>by rw [List.mem_singleton.1 hv];rfl⟩⟩
def RowsV(h:aG)(A:Option aL)(n w:Nat)(M:Nat->Nat->Rat):Prop:=∃ hd:List HV,SlF h A hd/\hd.length=n/\∀ i,i<n->∃ s,hd[i]? = some s/\s.n=w/\w<=s.c/\bK NQr h s.A w (M i)
def RowsV.mono{h h':aG}{A:Option aL}{n w:Nat}{M:Nat->Nat->Rat}(l:h.le h')(r:RowsV h A n w M):RowsV h' A n w M:=by
 obtain ⟨d,s,e,r⟩:=r
 refine ⟨d,s.mono l,e,fun i a=>?_⟩
 obtain ⟨s,c,f,b,r⟩:=r i a
 exact ⟨s,c,f,b,r.mono Q5 l⟩
def RowsV.at{h:aG}{A:Option aL}{n w:Nat}{M:Nat->Nat->Rat}(r:RowsV h A n w M){i:Nat}(hi:i<n):∃ (a:aL) (s:HV),A=some a/\s.n=w/\w<=s.c/\h.cell? (aF a (i*1))=some (.slice s.A s.n s.c)/\bK NQr h s.A w (M i):=by
 obtain ⟨j,s,e,r⟩:=r
 obtain ⟨u,b,k,d,r⟩:=r i hi
 obtain ⟨a,l,f⟩:=SlF.at (by decide) s (i:=i) (by omega)
 have g:j[i]=u:=by
  rw [aI (by omega)] at b;exact dL b
 have:=f 0 _ (by rw [g];rfl)
 rw [Jg] at this
 exact ⟨a,u,l,k,d,this,r⟩
structure Mt (h g o:aG) (bo:Nat) (rb:Nat->Nat) (n w:Nat) (M:Nat->Nat->Rat):Prop where
 sep:Sep h g o
 hd:∃ hd:List HV,RowB o bo hd/\hd.length=n/\∀ i,i<n->∃ c,hd[i]? = some ⟨some ⟨rb i,0,none⟩,w,c⟩/\w<=c
 nb:∀ i,i<n->rb i≠bo
 inj:∀ i j,i<n->j<n->rb i=rb j->i=j
 row:∀ i,i<n->∃ xs:List QV,RowB o (rb i) xs/\xs.length=w/\Row NQr g xs w (M i)
section
variable {h g o:aG} {bo n w:Nat} {rb:Nat->Nat} {M:Nat->Nat->Rat}
def Mt.next(t:Mt h g o bo rb n w M){h' g':aG}(s:Sep h' g' o)(l:g.le g'):Mt h' g' o bo rb n w M:=by
 refine ⟨s,t.hd,t.nb,t.inj,fun i a=>?_⟩
 obtain ⟨b,r,e,q⟩:=t.row i a
 exact ⟨b,r,e,q.mono Q5 l⟩
def Mt.congr(t:Mt h g o bo rb n w M){M':Nat->Nat->Rat}(e:∀ i j,i<n->j<w->M i j=M' i j):Mt h g o bo rb n w M':=by
 refine ⟨t.sep,t.hd,t.nb,t.inj,fun i a=>?_⟩
 obtain ⟨b,r,d,q⟩:=t.row i a
 exact ⟨b,r,d,q.congr fun j c=>e i j a c⟩
def Mt.keep(t:Mt h g o bo rb n w M){h' g' o':aG}(s:Sep h' g' o')(l:g.le g')(hk:∀ k x,o k=some x->(k=bo\/∃ i,i<n/\k=rb i)->o' k=some x):Mt h' g' o' bo rb n w M:=by
 refine ⟨s,?_,t.nb,t.inj,fun i d=>?_⟩
 ·obtain ⟨f,⟨e,ex,a⟩,b,c⟩:=t.hd
  exact ⟨f,⟨e,ex,hk _ _ a (.inl rfl)⟩,b,c⟩
 ·obtain ⟨j,⟨e,ex,a⟩,b,c⟩:=t.row i d
  exact ⟨j,⟨e,ex,hk _ _ a (.inr ⟨i,d,rfl⟩)⟩,b,c.mono Q5 l⟩
def Mt.own(t:Mt h g o bo rb n w M):(∃ x,o bo=some x)/\∀ i,i<n->∃ x,o (rb i)=some x:=by
 obtain ⟨d,⟨e,ex,a⟩,_⟩:=t.hd
 refine ⟨⟨_,a⟩,fun i b=>?_⟩
 obtain ⟨c,⟨e,ex,a⟩,_⟩:=t.row i b
 exact ⟨_,a⟩
def Mt.rowsV(t:Mt h g o bo rb n w M):RowsV h (some ⟨bo,0,none⟩) n w M:=by
 obtain ⟨k,r,e,q⟩:=t.hd
 refine ⟨k,r.slF t.sep.ole,e,fun i a=>?_⟩
 obtain ⟨c,d,j⟩:=q i a
 obtain ⟨l,b,m,f⟩:=t.row i a
 exact ⟨_,d,rfl,j,l,b.slF t.sep.ole,m,f.mono Q5 t.sep.le⟩
def Mt.head(t:Mt h g o bo rb n w M){i:Nat}(hi:i<n):∃ c,w<=c/\o.cell? (aF ⟨bo,0,none⟩ (i*1))=some (.slice (some ⟨rb i,0,none⟩) w c):=by
 obtain ⟨f,r,e,q⟩:=t.hd
 obtain ⟨c,a,b⟩:=q i hi
 refine ⟨c,b,?_⟩
 have d:f[i]=⟨some ⟨rb i,0,none⟩,w,c⟩:=by
  rw [aI (by omega)] at a;exact dL a
 rw [E5,aN]
 exact r.cell (i:=i) (by omega) (j:=0) (by rw [d];rfl)
def Mt.elem(t:Mt h g o bo rb n w M){i j:Nat}(hi:i<n)(hj:j<w):∃ x:QV,NQ g x (M i j)/\o.cell? (aF (aF ⟨rb i,0,none⟩ (j*4)) 0)=some (.bool x.s)/\o.cell? (aF (aF ⟨rb i,0,none⟩ (j*4)) 1)=some (.slice x.A x.n x.c)/\o.cell? (aF (aF ⟨rb i,0,none⟩ (j*4)) 2)=some (.bool x.s2)/\o.cell? (aF (aF ⟨rb i,0,none⟩ (j*4)) 3)=some (.slice x.A2 x.n2 x.c2):=by
 obtain ⟨l,r,e,q⟩:=t.row i hi
 obtain ⟨x,a,b⟩:=q j hj
 have f:l[j]=x:=by
  rw [aI (by omega)] at a;exact dL a
 have cell:∀ k v,(enc x)[k]? = some v->o.cell? (aF (aF ⟨rb i,0,none⟩ (j*4)) k)=some v:=by
  intro k v d
  rw [E5,E5,aN]
  exact r.cell (i:=j) (by omega) (j:=k) (by rw [f];exact d)
 exact ⟨x,b,cell 0 _ rfl,cell 1 _ rfl,cell 2 _ rfl,cell 3 _ rfl⟩
def C3t(M:Nat->Nat->Rat)(i j:Nat)(q:Rat):Nat->Nat->Rat:=fun a b=>if a=i/\b=j then q else M a b
def Mt.store(t:Mt h g o bo rb n w M){i j:Nat}(hi:i<n)(hj:j<w){x:QV}{q:Rat}(hx:NQ g x q){K:Unit->aG->Prop}
 (k:∀ h' o',Mt h' g o' bo rb n w (C3t M i j q)->(∀ k,k≠rb i->o' k=o k)->K () h'):wpH prog (aX K9 (.pointer (some (aF ⟨rb i,0,none⟩ (j*4)))) x.v) K h:=by
 obtain ⟨L,r,e,p⟩:=t.row i hi
 rw [E5,aN]
 refine Sep.store (E:=inferInstanceAs (Enc QV)) Cu (v:=x.v) (y:=x) rfl t.sep r (i:=j) (by omega) rfl ?_
 intro h' o' J d z H
 refine k h' o' ⟨z,?_,t.nb,t.inj,fun a l=>?_⟩ (fun k m=>by rw [d,B8 _ _ m])
 ·obtain ⟨C,G,A,F⟩:=t.hd
  exact ⟨C,by rw [d];exact G.other (t.nb i hi).symm _,A,F⟩
 ·by_cases f:a=i
  ·subst f
   refine ⟨_,H,by simpa using e,?_⟩
   refine (Row.upd p (k:=j) (by omega) hx).congr fun b _=>?_
   unfold C3t
   by_cases c:b=j
   ·rw [iP c,iP ⟨rfl,c⟩]
   ·rw [iN c,iN (fun x=>c x.2)]
  ·obtain ⟨D,s,u,B⟩:=t.row a l
   refine ⟨D,by rw [d];exact s.other (fun e=>f (t.inj a i l hi e)) _,u,B.congr fun b _=>?_⟩
   unfold C3t
   rw [iN (fun x=>f x.1)]
def Mt.swap{P:cY}(t:Mt h g o bo rb n w M){i k:Nat}(hi:i<n)(hk:k<n){t':cF}(one:P.cellsOf t'=1/\(P.info? t').isSome=true){ci ck:Nat}(hci:o.cell? (aF ⟨bo,0,none⟩ (i*1))=some (.slice (some ⟨rb i,0,none⟩) w ci))(hck:o.cell? (aF ⟨bo,0,none⟩ (k*1))=some (.slice (some ⟨rb k,0,none⟩) w ck))(hcw:w<=ci)(hcw2:w<=ck){X:Unit->aG->Prop}
 (xx:∀ h1,(∀ {K:Unit->aG->Prop},(∀ h' o',Mt h' g o' bo (fun a=>rb (xch i k a)) n w (fun a=>M (xch i k a))->(∀ k,k≠bo->o' k=o k)->K () h')->wpH P (aX t' (.pointer (some (aF ⟨bo,0,none⟩ (i*1)))) (.slice (some ⟨rb k,0,none⟩) w ck)) K h1)->X () h1):
 wpH P (aX t' (.pointer (some (aF ⟨bo,0,none⟩ (k*1)))) (.slice (some ⟨rb i,0,none⟩) w ci)) X h:=by
 obtain ⟨H,r,e,q⟩:=t.hd
 rw [E5,aN]
 refine Sep.store (E:=inferInstanceAs (Enc HV)) one (v:=.slice (some ⟨rb i,0,none⟩) w ci) (y:=(⟨some ⟨rb i,0,none⟩,w,ci⟩:HV)) rfl t.sep r (i:=k) (by omega) rfl ?_
 intro h1 R T A N J
 refine xx h1 (fun {K} kk=>?_)
 rw [E5,aN]
 refine Sep.store (E:=inferInstanceAs (Enc HV)) one (v:=.slice (some ⟨rb k,0,none⟩) w ck) (y:=(⟨some ⟨rb k,0,none⟩,w,ck⟩:HV)) rfl N J (i:=i) (by simpa using (by omega:i<H.length)) rfl ?_
 intro u C S s G O
 have D:∀ b,b≠bo->C b=o b:=fun b f=>by rw [s,B8 _ _ f,A,B8 _ _ f]
 have j:∀ a,a<n->xch i k a<n:=fun a d=>Rl hi hk d
 have m:∀ a b,xch i k a=xch i k b->a=b:=fun a b h=>by rw [<- A5s (k:=i) (l:=k) (i:=a),h,A5s]
 refine kk u C ⟨G,⟨_,O,by simpa using e,fun a d=>?_⟩,fun a d=>t.nb _ (j a d),fun a b d f h=>m a b (t.inj _ _ (j a d) (j b f) h),fun a d=>?_⟩ D
 ·by_cases p:a=i
  ·subst p
   exact ⟨ck,by rw [bZ (by simp;omega)];unfold xch;rw [iP rfl],hcw2⟩
  ·rw [bX (fun x=>p x.symm)]
   by_cases z:a=k
   ·subst z
    exact ⟨ci,by rw [bZ (by omega)];unfold xch;rw [iN p,iP rfl],hcw⟩
   ·rw [bX (fun x=>z x.symm)]
    obtain ⟨c,h1,u⟩:=q a d
    exact ⟨c,by rw [h1];unfold xch;rw [iN p,iN z],u⟩
 ·obtain ⟨L,F,ex,Q⟩:=t.row _ (j a d)
  obtain ⟨e,B,f⟩:=F
  exact ⟨L,⟨e,B,by rw [D _ (t.nb _ (j a d))];exact f⟩,ex,Q⟩
end
def RWr(w:Nat):aG->HV->(Nat->Rat)->Prop:=fun h s f=>s.n=w/\w<=s.c/\bK NQr h s.A w f
def C1v(w:Nat):Mon (RWr w):=fun _ _ _ _ l i=>⟨i.1,i.2.1,i.2.2.mono Q5 l⟩
def RowsV.of{h:aG}{A:Option aL}{n w:Nat}{M:Nat->Nat->Rat}(r:bK (RWr w) h A n M):RowsV h A n w M:=r
def A7f{α:Type}[E:Enc α]{P:cY}{t e ty:cF}{z:cG}{bytes:Nat}(st:SliceT P t e z E.default.size bytes){h g o:aG}(s:Sep h g o){A:Option aL}{B:Option aL}{d m:Nat}{ys:List α}(hm:m=ys.length)(hne:ys≠[])(sy:SlF h B ys)
 (hb:(2*ys.length+192)*bytes<=281474976710656) (hn:ys.length<=9223372036854775807) {K:VP}
 (x:∀ b c' h' g' o' y,o'=o.put b y->h b=none->g.le g'->Sep h' g' o'->ys.length<=c'->RowB o' b ys->K (.slice (some ⟨b,0,none⟩) m c') h'):wpH P (bU #[t,t] ty #[.slice A 0 0,.slice B m d]) K h:=by
 have p:PrivF h h e A 0 ([]:List α):=PrivF.nil h e A
 refine Kr st p hm sy (by simpa using hb) (by simpa using hn) ?_
 intro A' c' h' g' l j
 rw [List.nil_append] at j
 obtain ⟨b,y,C,a,r,_,n⟩:=B5u j hne
 obtain ⟨q,f,w⟩:=s.after l
 have k:=j.2.1
 have i:h b=none:=by
  cases hx:h b with
  | none=>rfl
  | some u=>rw [l b u hx] at a;cases a
 subst r
 obtain ⟨D,ex,c⟩:=n
 rw [C2] at c
 have:=x b c' _ q (o.put b y) y rfl i f (w.new a y) k ⟨D,ex,by rw [C2];exact c⟩
 rw [C,List.nil_append,<- hm]
 exact this
section
variable {h:aG} {K:VP} {A:Option aL} {n cap m w:Nat} {r c:Int} {ls:Nat->List UInt8} {M:Nat->Nat->Rat}
def B0o{rcap:Nat}(rs:RowsV h A n w M)(hn:n<=1000000)(hw1:1<=w)(hw:w<=1000000)(hn1:1<=n)
 (hK:∀ h' g' o' bo rb c',h.le g'->Mt h' g' o' bo rb n w M->K (.slice (some ⟨bo,0,none⟩) n c') h'):bC prog A73 #[.slice A n rcap] h K:=by
 refine B9k _ _ _ ?_
 unfold C5q
 refine ⟨fun L hp=>∃ (k:Nat) (g o:aG) (E:List HV) (rb:Nat->Nat) (A':Option aL) (c':Nat),k<=n/\L=[.slice A' k c',I (k:Int)]/\h.le g/\Sep hp g o/\OwnSl o En A' c' E/\E.length=k/\(∀ i,i<k->∃ c,E[i]? = some ⟨some ⟨rb i,0,none⟩,w,c⟩/\w<=c)/\(∀ i,i<k->A'≠some ⟨rb i,0,none⟩)/\(∀ i j,i<k->j<k->rb i=rb j->i=j)/\∀ i,i<k->∃ r:List QV,RowB o (rb i) r/\r.length=w/\Row NQr g r w (M i),fun L _=>n-(iAt L 1).toNat,
  ⟨0,h,Bn,[],fun _=>0,none,0,by omega,rfl,B4 _,Sep.refl h,OwnSl.nil,rfl,fun i f=>by omega,fun i f=>by omega,fun i j f=>by omega,fun i f=>by omega⟩,?_⟩
 rintro oA on oc z hp ⟨k,g,o,E,rb,A',c',hk,eL,T,s,ow,b,u,F,B,l⟩
 obtain ⟨⟨rfl,rfl,rfl⟩,rfl⟩:=sI2 eL
 refine B6 (fun al=>?_) (fun aj=>?_)
 ·have aa:on<n:=by omega
  refine A6p A09 ?_
  intro be D
  have S:=s.vis D (.cells #[] K9)
  have O:g.le (g.put be (.cells #[] K9)):=Heap.le_put _ (by
   cases t:g be with
   | none=>rfl
   | some y=>rw [s.le _ _ t] at D;cases D)
  have G:=B0 T O
  obtain ⟨a,sv,ea,H,Q,hc,r,sx,N,qx⟩:=rs.at aa
  refine ⟨_,_,_,rfl,a,ea,by omega,by omega,_,_,_,B9 (B0 G S.le) hc,?_⟩
  refine A7f A09 S (ys:=r) (by omega) (by rintro rfl;simp at N;omega) (sx.mono (B0 G S.le)) (by omega) (by omega) ?_
  intro p c2 h2 g2 o2 y eo J l2 s2 ak W
  refine ⟨_,_,_,rfl,?_⟩
  have d:∀ q x,o q=some x->q≠p:=by
   rintro q x e rfl
   have:=S.ole q x e
   rw [this] at J;cases J
  have V:OwnSl o2 En oA oc E:=ow.keep fun q x _ e=>by rw [eo,B8 _ _ (d q x e)];exact e
  have ah:oA≠some ⟨p,0,none⟩:=by
   intro hA
   rcases ow.2 with ⟨_,h0⟩|⟨b',am,C,Z,_⟩
   ·rw [hA] at h0;cases h0
   ·rw [hA] at C
    simp only [aR,bH,and_true] at C
    exact d _ _ Z C.symm
  refine N4 (ty:=A5y) C68 s2 V b.symm (y:=(⟨some ⟨p,0,none⟩,sv.n,c2⟩:HV)) rfl (by decide) (by rw [b];omega) (by rw [b];omega) ?_
  intro A3 c3 h3 g3 o3 l3 s3 X kp
  have kq:∀ i,i<on->∃ x,o (rb i)=some x:=fun i f=>by
   obtain ⟨r,⟨e,ex,hb⟩,_⟩:=l i f;exact ⟨_,hb⟩
  obtain ⟨e5,ag,ae⟩:=id W
  have k2:=kp p _ ae ah
  rw [b,wiS on (by omega)]
  have m:=B0 O (B0 l2 l3)
  refine ⟨⟨on+1,g3,o3,_,fun i=>if i=on then p else rb i,A3,c3,by omega,rfl,B0 T m,s3,X,by rw [aC,b];rfl,fun i f=>?_,fun i f=>?_,fun i j f hj h=>?_,fun i f=>?_⟩,?_⟩
  ·show ∃ c,(E++[(⟨some ⟨p,0,none⟩,sv.n,c2⟩:HV)])[i]? = some ⟨some ⟨if i=on then p else rb i,0,none⟩,w,c⟩/\w<=c
   by_cases e:i=on
   ·subst e
    exact ⟨c2,by rw [bB (by omega),b,iP rfl,H];simp,by omega⟩
   ·obtain ⟨c,h1,h2⟩:=u i (by omega)
    exact ⟨c,by rw [aU (by omega),iN e];exact h1,h2⟩
  ·show A3≠some ⟨if i=on then p else rb i,0,none⟩
   by_cases e:i=on
   ·rw [iP e];exact k2.2
   ·rw [iN e]
    obtain ⟨x,t⟩:=kq i (by omega)
    exact (kp (rb i) x (by rw [eo,B8 _ _ (d _ _ t)];exact t) (F i (by omega))).2
  ·have h':(if i=on then p else rb i)=(if j=on then p else rb j):=h
   by_cases H:i=on
   ·by_cases Q:j=on
    ·omega
    ·rw [iP H,iN Q] at h'
     obtain ⟨x,t⟩:=kq j (by omega)
     exact absurd h'.symm (d _ _ t)
   ·by_cases Q:j=on
    ·rw [iN H,iP Q] at h'
     obtain ⟨x,t⟩:=kq i (by omega)
     exact absurd h' (d _ _ t)
    ·rw [iN H,iN Q] at h'
     exact B i j (by omega) (by omega) h'
  ·show ∃ r:List QV,RowB o3 (if i=on then p else rb i) r/\_
   by_cases e:i=on
   ·subst e
    rw [iP rfl]
    exact ⟨r,⟨e5,ag,k2.1⟩,N,qx.mono Q5 (B0 T m)⟩
   ·rw [iN e]
    obtain ⟨ys,⟨ey,af,R⟩,ac,qy⟩:=l i (by omega)
    refine ⟨ys,⟨ey,af,?_⟩,ac,qy.mono Q5 m⟩
    exact (kp (rb i) _ (by rw [eo,B8 _ _ (d _ _ R)];exact R) (F i (by omega))).1
  ·show n-((on+1:Nat):Int).toNat<n-((on:Nat):Int).toNat
   omega
 ·have ai:on=n:=by omega
  subst ai
  obtain ⟨bo,rfl,ad⟩:=ow.rowB (by rintro rfl;simp at b;omega)
  exact hK hp g o bo rb oc T ⟨s,⟨E,ad,b,u⟩,fun i f e=>F i f (by rw [e]),B,l⟩
end
section
variable {α:Type} [E:Enc α]
def OwnSl.app{P:cY}{t e ty:cF}{z:cG}{bytes:Nat}(st:SliceT P t e z E.default.size bytes){h g o:aG}{A:Option aL}{c:Nat}{xs:List α}(s:Sep h g o)(w:OwnSl o e A c xs){B:Option aL}{d m n:Nat}{ys:List α}(hxn:n=xs.length)(hm:m=ys.length)(hne:ys≠[])(sy:SlF h B ys)(hb:(2*(xs.length+ys.length)+192)*bytes<=281474976710656)(hn:xs.length+ys.length<=9223372036854775807){K:VP}
 (x:∀ A' c' h' g' o',g.le g'->Sep h' g' o'->OwnSl o' e A' c' (xs++ys)->(∀ k u,o k=some u->A≠some ⟨k,0,none⟩->o' k=some u/\A'≠some ⟨k,0,none⟩)->K (.slice A' (xs.length+m) c') h'):
 wpH P (bU #[t,t] ty #[.slice A n c,.slice B m d]) K h:=by
 subst hxn
 obtain ⟨gb,p,F⟩:=w.priv s
 refine Kr st p hm sy hb hn ?_
 intro A' c' h' g' hg R
 rw [aC,<- hm]
 have G:∀ k u,h k=some u->A≠some ⟨k,0,none⟩->g' k=some u:=by
  intro k u a hne
  exact hg k u (F k u a hne)
 have O:∀ k u,g k=some u->A≠some ⟨k,0,none⟩:=by
  intro k u a l
  rcases w.2 with ⟨_,T⟩|⟨f,j,i,q,_⟩
  ·rw [l] at T;cases T
  ·rw [l] at i
   simp only [aR,bH,and_true] at i
   subst i
   rw [s.dis k _ q] at a;cases a
 rcases R.2.2 with ⟨aa,_⟩|⟨f,j,i,q,H,Z,ht⟩
 ·exfalso
  have:=R.2.1
  rw [aC] at this
  have:ys.length≠0:=fun h=>hne (bY h)
  omega
 ·subst i
  let o':aG:=fun k=>if k=f then some (.cells (cT j) e) else if A=some ⟨k,0,none⟩ then none else o k
  have X:o' f=some (.cells (cT j) e):=by show (if f=f then _ else _)=_;rw [iP rfl]
  have Q:∀ k,k≠f->A≠some ⟨k,0,none⟩->o' k=o k:=fun k J r=>by show (if k=f then _ else if _ then _ else _)=_;rw [iN J,iN r]
  have S:∀ k,k≠f->A=some ⟨k,0,none⟩->o' k=none:=fun k J r=>by show (if k=f then _ else if _ then _ else _)=_;rw [iN J,iP r]
  let g2:aG:=fun k=>match o' k with|some _=>none|none=>h' k
  have gs:∀ k u,o' k=some u->g2 k=none:=fun k u a=>by show (match o' k with|some _=>none|none=>h' k)=_;rw [a]
  have W:∀ k,o' k=none->g2 k=h' k:=fun k a=>by show (match o' k with|some _=>none|none=>h' k)=_;rw [a]
  have C:∀ k u,k≠f->g' k=some u->h' k=some u:=fun k u J a=>by rw [H,B8 _ _ J];exact a
  have L:∀ k u,o k=some u->A≠some ⟨k,0,none⟩->k≠f:=by
   rintro k u a r rfl
   have:=G k u (s.own k u a) r
   rw [q] at this;cases this
  refine x _ c' h' g2 o' (fun k u a=>?_) ⟨fun k u a=>?_,fun k a=>(W k a).symm,gs⟩ ⟨R.2.1,.inr ⟨f,j,rfl,X,Z,ht⟩⟩ (fun k u a r=>?_)
  ·have N:o k=none:=by
    cases ho:o k with
    | none=>rfl
    | some y=>rw [s.dis k y ho] at a;cases a
   have l:=O k u a
   have M:=G k u (s.le k u a) l
   have D:k≠f:=by rintro rfl;rw [q] at M;cases M
   rw [W k (by rw [Q k D l];exact N)]
   exact C k u D M
  ·by_cases b:k=f
   ·subst b
    rw [X] at a;cases a
    rw [H,C2]
   ·by_cases l:A=some ⟨k,0,none⟩
    ·rw [S k b l] at a;cases a
    ·rw [Q k b l] at a
     exact C k u b (G k u (s.own k u a) l)
  ·have b:=L k u a r
   refine ⟨by rw [Q k b r];exact a,fun V=>b ?_⟩
   simp only [aR,bH,and_true] at V
   exact V.symm
end
def Qn(M:Nat->Nat->Rat)(w:Nat):Nat->List UInt8:=fun k=>H1 (M (k/w) (k%w))
section
variable {h:aG} {K:VP} {A:Option aL} {n cap m w:Nat} {M:Nat->Nat->Rat}
def B0m(rs:RowsV h A n w M)(hn:n<=10000)(hw1:1<=w)(hw:w<=10000)(hn1:1<=n)(hs:∀ i j,i<n->j<w->Sz m (M i j))(hm:m<=400000000)
 (hK:∀ A' c' h',h.le h'->n*w<=c'->bK SSr h' A' (n*w) (Qn M w)->K (Ys n w A' (n*w) c') h'):bC prog A71 #[.slice A n cap] h K:=by
 refine B9i _ _ _ ?_
 unfold C5o
 refine D9 (fun e=>by omega) (fun _=>?_)
 obtain ⟨a,sv,rfl,l,e2,hc,_⟩:=rs.at (i:=0) (by omega)
 have X:n*w<=10000*10000:=bI hn hw
 refine ⟨a,rfl,by omega,by omega,_,_,_,hc,fun L H=>∃ (k:Nat) (g o:aG) (r:List (List UInt8)) (A':Option aL) (c':Nat),k<=n/\L=[I (k:Int),I (n:Int),I (w:Int),.slice A' (k*w) c']/\h.le g/\Sep H g o/\OwnSl o J5 A' c' r/\r.length=k*w/\Row SSr g r (k*w) (Qn M w),fun L _=>n-(iAt L 0).toNat,⟨0,h,Bn,[],none,0,by omega,by rw [l,bW];rfl,B4 _,Sep.refl h,OwnSl.nil,by simp,by rw [bW];exact Row.nil⟩,?_⟩
 rintro z m0 m1 mA mn S H ⟨k,g,o,r,A',c',hk,N,t,s,F,b,O⟩
 simp only [bD,cC,aY,true_and,and_true] at N
 obtain ⟨rfl,rfl,rfl,rfl,rfl,rfl⟩:=N
 refine B6 (fun aa=>?_) (fun V=>?_)
 ·have d:k<n:=by omega
  obtain ⟨R,s1,Z,f1,f2,G,row⟩:=rs.at d
  have y:=B0 t s.le
  have p:(k+1)*w=k*w+w:=by rw [aM,aQ]
  have ac:(k+1)*w<=n*w:=aD _ d
  refine ⟨R,Z,by omega,by omega,_,_,_,B9 y G,?_⟩
  rw [f1]
  refine s.call (Ck (row.mono Q5 t) (by omega) (fun j Q=>hs k j d Q) (by omega) ?_)
  intro b2 g2 own h2 B
  have q:=own.le
  obtain ⟨ys,T,f,qy⟩:=own.vis I9
  refine ⟨_,_,_,rfl,s.le_le B q,?_⟩
  refine OwnSl.app (ty:=Fx) Fz B F (by omega) f.symm (by rintro rfl;simp at f;omega) (T.mono B.le) (by omega) (by omega) ?_
  intro A3 c3 h3 g3 o3 W s3 C _
  rw [b,<- p,wiS k (by omega)]
  refine ⟨_,_,_,rfl,⟨k+1,g3,o3,_,A3,c3,by omega,rfl,B0 t (B0 q W),s3,C,by rw [aC,b,f,p],fun i hi=>?_⟩,by simp only [Ec];omega⟩
  by_cases e:i<k*w
  ·obtain ⟨u,l,D⟩:=O i e
   exact ⟨u,by rw [aU (by omega)];exact l,D⟩
  ·obtain ⟨j0,rfl⟩:∃ j0,i=k*w+j0:=⟨i-k*w,by omega⟩
   have c:j0<w:=by omega
   obtain ⟨u,l,D⟩:=qy j0 c
   refine ⟨u,by rw [bB (by omega),b,cO];exact l,?_⟩
   have x:u=H1 (M k j0):=D
   have hd:(k*w+j0)/w=k:=by rw [aO,dM (by omega),bM c,dB]
   have E:(k*w+j0)%w=j0:=by rw [aO,Nat.mul_add_mod,cK c]
   show u=Qn M w (k*w+j0)
   unfold Qn
   rw [hd,E];exact x
 ·have:k=n:=by omega
  subst this
  have J:=F.1
  exact hK mA S H (B0 t s.le) (by omega) ⟨r,F.slF s.ole,b,O.mono I9 s.le⟩
end
abbrev ecE(M:Nat->Nat->Rat)(n c:Nat):ES:=A8d n ⟨M,[],1⟩ c
def B2w{n:Nat}{s:ES}{c:Nat}(h:n<=(A8d n s c).cs.length):∀ d,A8d n s (c+d)=A8d n s c:=by
 intro d
 induction d with
 | zero=>rfl
 | succ d ih=>
  show Gb n (c+d) (A8d n s (c+d))=_
  rw [ih]
  unfold Gb
  rw [iN (by omega)]
def Ee(M:Nat->Nat->Rat)(n:Nat):∀ c,(ecE M n c).cs.length<=c/\(ecE M n c).cs.length<=n:=by
 intro c
 induction c with
 | zero=>exact ⟨aE _,bL _⟩
 | succ c ih=>
  show (Gb n c (ecE M n c)).cs.length<=c+1/\(Gb n c (ecE M n c)).cs.length<=n
  unfold Gb
  split
  ·split
   ·show ((ecE M n c).cs++[c]).length<=c+1/\((ecE M n c).cs++[c]).length<=n
    rw [aC]
    exact ⟨Nat.succ_le_succ ih.1,by simp only [cL,dN];omega⟩
   ·show (ecE M n c).cs.length<=c+1/\_
    exact ⟨cX ih.1,ih.2⟩
  ·exact ⟨cX ih.1,ih.2⟩
def B0q(M:Nat->Nat->Rat)(n c:Nat):Rat:=if (ecE M n c).cs.length<c then 0 else (ecE M n c).det
abbrev qc(w:QV):List cG:=[.bool w.s,.slice w.A w.n w.c,.bool w.s2,.slice w.A2 w.n2 w.c2]
def C1l{w:QV}{a b:Bool}{A B:Option aL}{n c n' c':Nat}{l l':List cG}(h:(.bool a:cG) :: .slice A n c :: .bool b :: .slice B n' c'::l= .bool w.s :: .slice w.A w.n w.c :: .bool w.s2 :: .slice w.A2 w.n2 w.c2::l'):(⟨a,A,n,c,b,B,n',c'⟩:QV)=w/\l=l':=by
 simp only [bD,cJ,aY] at h
 obtain ⟨rfl,⟨rfl,rfl,rfl⟩,rfl,⟨rfl,rfl,rfl⟩,h⟩:=h
 exact ⟨rfl,h⟩
def Sh(bo:Nat)(rb:Nat->Nat)(n:Nat)(A:Option aL):Prop:=A≠some ⟨bo,0,none⟩/\∀ i,i<n->A≠some ⟨rb i,0,none⟩
section
variable {g o h11 h14 h15 hp2:aG} {bo n w r c i B:Nat} {rb:Nat->Nat} {R:Nat->Nat->Rat} {x:QV} {q:Rat} {Invv Invv3:LP} {muv muv3:LN}
def C6l(t:Mt h15 g o bo rb n w R)(hi:i<n)(hr:r<n)(hir:i≠r)(hcw:c<=w)(hn:n<=10000)(hw:w<=10000)(ix:NQ g x q)(s1:∀ b,b<w->Sz B (R i b))(s2:∀ b,b<w->Sz (B+B) (R r b))(s3:Sz B q)(hB:B*7<=100000000)
 (fin:∀ h' g' o',g.le g'->Mt h' g' o' bo rb n w (fun a b=>if a=i/\c<=b then R i b-q*R r b else R a b)->(∀ b,(∀ i,i<n->b≠rb i)->o' b=o b)->Invv3 [I (B5 ((i:Int)+1))] h'/\muv3 [I (B5 ((i:Int)+1))] h'<muv3 [I (i:Int)] h14):
 My prog (some ⟨bo,0,none⟩) n r (c:Int) Invv3 muv3 (i:Int) x.s x.A x.n x.c x.s2 x.A2 x.n2 x.c2 h15 h14:=by
 unfold My
 refine ⟨fun L hq=>∃ (k:Nat) (g' o':aG),c<=k/\k<=w/\L=[I (k:Int)]/\g.le g'/\Mt hq g' o' bo rb n w (fun a b=>if a=i/\c<=b/\b<k then R i b-q*R r b else R a b)/\(∀ b,(∀ i,i<n->b≠rb i)->o' b=o b),fun L _=>w-(iAt L 0).toNat,⟨c,g,o,aE _,hcw,rfl,B4 _,t.congr (fun a b _ _=>by rw [iN (by omega)]),fun _ _=>rfl⟩,?_⟩
 rintro z S ⟨k,W,o6,J,ai,Q,G,e,u⟩
 obtain rfl:=sI1 Q
 obtain ⟨c6,aa,F⟩:=e.head hi
 have l:=e.sep.cell F
 refine ⟨_,rfl,by omega,by omega,_,_,_,l,B6 (fun ae=>?_) (fun ac=>?_)⟩
 ·have d:k<w:=by omega
  obtain ⟨c7,ah,O⟩:=e.head hr
  obtain ⟨y,V,y0,y1,y2,y3⟩:=e.elem hi d
  obtain ⟨v,T,v0,v1,v2,X⟩:=e.elem hr d
  rw [iN (by omega)] at V
  rw [iN (fun x=>hir x.1.symm)] at T
  refine ⟨_,rfl,by omega,by omega,_,_,_,l,_,rfl,by omega,by omega,_,_,_,l,_,rfl,by omega,by omega,_,_,_,_,_,_,_,_,e.sep.cell y0,e.sep.cell y1,e.sep.cell y2,e.sep.cell y3,_,rfl,by omega,by omega,_,_,_,e.sep.cell O,_,rfl,by omega,by omega,_,_,_,_,_,_,_,_,e.sep.cell v0,e.sep.cell v1,e.sep.cell v2,e.sep.cell X,?_⟩
  refine e.sep.call (Nu (ix.mono G) T (s3.mono (show B<=B+B by omega)) (s2 k d) (by omega) ?_)
  intro w7 g7 D i7 af f
  have Z:=e.next f D
  refine ⟨_,_,_,_,_,_,_,_,rfl,e.sep.le_le f D,?_⟩
  refine f.call (A3g (V.mono D) i7 ((s1 k d).mono (show B<=B+(B+B) by omega)) (s3.mul (s2 k d)) (by omega) ?_)
  intro w8 g8 N i8 ad m
  have t8:=Z.next m N
  refine ⟨_,_,_,_,_,_,_,_,rfl,f.le_le m N,_,rfl,by omega,by omega,?_⟩
  refine t8.store hi d (x:=w8) i8 ?_
  intro ag H M p
  rw [wiS k (by omega)]
  refine ⟨⟨k+1,g8,H,by omega,by omega,rfl,B0 G (B0 D N),M.congr (fun a b _ _=>?_),fun b C=>by rw [p b (C _ hi),u b C]⟩,by simp only [Ec];omega⟩
  show (if a=i/\b=k then R i k-q*R r k else if a=i/\c<=b/\b<k then R i b-q*R r b else R a b)=if a=i/\c<=b/\b<k+1 then R i b-q*R r b else R a b
  by_cases j:a=i/\b=k
  ·obtain ⟨rfl,rfl⟩:=j
   rw [iP ⟨rfl,rfl⟩,iP ⟨rfl,J,by omega⟩]
  ·rw [iN j]
   by_cases E:a=i/\c<=b/\b<k
   ·rw [iP E,iP ⟨E.1,E.2.1,by omega⟩]
   ·rw [iN E,iN (by omega)]
 ·have d:k=w:=by omega
  subst d
  refine fin S W o6 G (e.congr (fun a b _ C=>?_)) u
  by_cases j:a=i/\c<=b
  ·rw [iP j,iP ⟨j.1,j.2,C⟩]
  ·rw [iN j,iN (fun x=>j ⟨x.1,x.2.1⟩)]
def C6m{pA:Option aL}{pc:Nat}{d0 d2 e0 e2:Bool}{d1A d3A e1A e3A:Option aL}{d1n d1c d3n d3c e1n e1c e3n e3c:Nat}(t:Mt h11 g o bo rb n w (fun a b=>if a=r then R r b/R r c else R a b))(hr:r<n)(hcw:c<w)(hn:n<=10000)(hw:w<=10000)(hB1:1<=B)(hR:∀ a b,a<n->b<w->Sz B (R a b))(hB:B*7<=100000000)
 (fin:∀ h' g' o',g.le g'->Mt h' g' o' bo rb n w (elimE R r c)->(∀ b,(∀ i,i<n->b≠rb i)->o' b=o b)->wpH prog (cM Fy 1 #[(0,I (c:Int))]) (fun v hp20=>∃ (t167A:Option aL) (t167n:Nat) (t167c:Nat),v= .slice t167A t167n t167c/\wpH prog (bU #[Fy,Fy] Fy #[.slice pA r pc,.slice t167A t167n t167c]) (fun v1 hp21=>∃ (t168A:Option aL) (t168n:Nat) (t168c:Nat),v1= .slice t168A t168n t168c/\Invv [.slice t168A t168n t168c,I (B5 ((c:Int)+(1:Int))),.bool e0,.slice e1A e1n e1c,.bool e2,.slice e3A e3n e3c] hp21/\muv [.slice t168A t168n t168c,I (B5 ((c:Int)+(1:Int))),.bool e0,.slice e1A e1n e1c,.bool e2,.slice e3A e3n e3c] hp21<muv [.slice pA r pc,I (c:Int),.bool d0,.slice d1A d1n d1c,.bool d2,.slice d3A d3n d3c] hp2) hp20) h'):
 Hf prog (some ⟨bo,0,none⟩) n Invv muv pA r pc (c:Int) d0 d1A d1n d1c d2 d3A d3n d3c e0 e1A e1n e1c e2 e3A e3n e3c hp2 h11:=by
 unfold Hf
 refine ⟨fun L m=>∃ (i:Nat) (g' o':aG),i<=n/\L=[I (i:Int)]/\g.le g'/\Mt m g' o' bo rb n w (fun a b=>if a=r then R r b/R r c else if a<i then elimE R r c a b else R a b)/\(∀ b,(∀ i,i<n->b≠rb i)->o' b=o b),fun L _=>n-(iAt L 0).toNat,⟨0,g,o,by omega,rfl,B4 _,t.congr (fun a b _ l=>?_),fun _ _=>rfl⟩,?_⟩
 ·by_cases d:a=r
  ·rw [iP d,iP d]
  ·rw [iN d,iN d,iN (by omega)]
 rintro z u ⟨i,M,O,hi,D,G,k,p⟩
 obtain rfl:=sI1 D
 have q:B5 ((i:Int)+1)=((i+1:Nat):Int):=by rw [B7]<;>omega
 refine B6 (fun N=>?_) (fun S=>?_)
 ·have f:i<n:=by omega
  obtain ⟨c5,aa,F⟩:=k.head f
  obtain ⟨x,C,x0,x1,W,Z⟩:=k.elem f hcw
  refine ⟨_,rfl,by omega,by omega,_,_,_,k.sep.cell F,_,rfl,by omega,by omega,_,_,_,_,_,_,_,_,k.sep.cell x0,k.sep.cell x1,k.sep.cell W,k.sep.cell Z,?_⟩
  have same:∀ (m:i=r\/R i c=0),(∃ (i':Nat) (g' o':aG),i'<=n/\[I (B5 ((i:Int)+1))]=[I (i':Int)]/\g.le g'/\Mt u g' o' bo rb n w (fun a b=>if a=r then R r b/R r c else if a<i' then elimE R r c a b else R a b)/\(∀ b,(∀ i,i<n->b≠rb i)->o' b=o b))/\n-(iAt [I (B5 ((i:Int)+1))] 0).toNat<n-(iAt [I (i:Int)] 0).toNat:=by
   intro m
   rw [q]
   refine ⟨⟨i+1,M,O,by omega,rfl,G,k.congr (fun a b _ _=>?_),p⟩,by simp only [Ec];omega⟩
   by_cases d:a=r
   ·rw [iP d,iP d]
   ·rw [iN d,iN d]
    by_cases s:a<i
    ·rw [iP s,iP (by omega)]
    ·rw [iN s]
     by_cases Q:a<i+1
     ·rw [iP Q]
      have:a=i:=by omega
      subst this
      rcases m with m|m
      ·exact absurd m d
      ·unfold elimE
       rw [iN d,iP (.inl m)]
     ·rw [iN Q]
  refine D9 (fun he=>same (.inl (by omega))) (fun he=>?_)
  have j:i≠r:=by omega
  rw [iN j,iN (aS i)] at C
  refine Ke (C.mono k.sep.le) ⟨_,rfl,D9 (fun e=>?_) (fun e=>?_)⟩
  ·exact same (.inr (by rw [dS] at e;exact Rat.num_eq_zero.1 e))
  have J:R i c≠0:=fun h=>e (by rw [h];rfl)
  refine C6l (B:=B) k f hr j (by omega) hn hw C (fun b l=>by rw [iN j,iN (aS i)];exact hR i b f l) (fun b l=>by rw [iP rfl];exact (hR r b hr l).div (hR r c hr hcw) hB1) (hR i c f hcw) hB ?_
  intro ac T X V t6 E
  rw [q]
  refine ⟨⟨i+1,T,X,by omega,rfl,B0 G V,t6.congr (fun a b _ l=>?_),fun b l=>by rw [E b l,p b l]⟩,by simp only [Ec];omega⟩
  by_cases d:a=i
  ·subst d
   rw [iN j,iP (show a<a+1 by omega)]
   unfold elimE
   rw [iN j]
   by_cases y:c<=b
   ·have H:¬ (R a c=0\/b<c):=by
     rintro (h|h)
     ·exact J h
     ·omega
    rw [iP ⟨rfl,y⟩,iN j,iN (aS a),iP rfl,iN H]
   ·rw [iN (fun x=>y x.2),iN j,iN (aS a),iP (.inr (by omega))]
  ·rw [iN (fun x=>d x.1)]
   by_cases A:a=r
   ·rw [iP A,iP A]
   ·rw [iN A,iN A]
    by_cases s:a<i
    ·rw [iP s,iP (by omega)]
    ·rw [iN s,iN (by omega)]
 ·have f:i=n:=by omega
  subst f
  exact fin u M O G (k.congr (fun a b ha _=>by
   by_cases d:a=r
   ·rw [iP d];unfold elimE;rw [iP d]
   ·rw [iN d,iP ha])) p
def C6n{h10:aG}{xf:QV}{pA:Option aL}{pc:Nat}{d0 d2 e0 e2:Bool}{d1A d3A e1A e3A:Option aL}{d1n d1c d3n d3c e1n e1c e3n e3c:Nat}(t:Mt h10 g o bo rb n w R)(hr:r<n)(hcw:c<w)(hn:n<=10000)(hw:w<=10000)(ixf:NQ g xf (R r c))(hR:∀ b,b<w->Sz B (R r b))(hB:B*7<=100000000)
 (fin:∀ h' g' o',g.le g'->Mt h' g' o' bo rb n w (fun a b=>if a=r then R r b/R r c else R a b)->(∀ b,(∀ i,i<n->b≠rb i)->o' b=o b)->Hf prog (some ⟨bo,0,none⟩) n Invv muv pA r pc (c:Int) d0 d1A d1n d1c d2 d3A d3n d3c e0 e1A e1n e1c e2 e3A e3n e3c hp2 h'):
 Mz prog (some ⟨bo,0,none⟩) n Invv muv pA r pc (c:Int) d0 d1A d1n d1c d2 d3A d3n d3c xf.s xf.A xf.n xf.c xf.s2 xf.A2 xf.n2 xf.c2 e0 e1A e1n e1c e2 e3A e3n e3c h10 hp2:=by
 unfold Mz
 refine ⟨fun L Z=>∃ (j:Nat) (g' o':aG),j<=w/\L=[I (j:Int)]/\g.le g'/\Mt Z g' o' bo rb n w (fun a b=>if a=r/\b<j then R r b/R r c else R a b)/\(∀ b,(∀ i,i<n->b≠rb i)->o' b=o b),fun L _=>w-(iAt L 0).toNat,⟨0,g,o,by omega,rfl,B4 _,t.congr (fun a b _ _=>by rw [iN (by omega)]),fun _ _=>rfl⟩,?_⟩
 rintro z D ⟨j,W,o4,hj,F,C,e,l⟩
 obtain rfl:=sI1 F
 obtain ⟨N,M,u⟩:=e.head hr
 have f:=e.sep.cell u
 refine ⟨_,rfl,by omega,by omega,_,_,_,f,B6 (fun aa=>?_) (fun V=>?_)⟩
 ·have d:j<w:=by omega
  obtain ⟨x,H,x0,x1,x2,x3⟩:=e.elem hr d
  rw [iN (by omega)] at H
  refine ⟨_,rfl,by omega,by omega,_,_,_,f,_,rfl,by omega,by omega,_,_,_,f,_,rfl,by omega,by omega,_,_,_,_,_,_,_,_,e.sep.cell x0,e.sep.cell x1,e.sep.cell x2,e.sep.cell x3,?_⟩
  refine e.sep.call (B33 H (ixf.mono C) (hR _ d) (hR _ hcw) (by omega) ?_)
  intro X T E Q ac k
  refine ⟨_,_,_,_,_,_,_,_,rfl,e.sep.le_le k E,_,rfl,by omega,by omega,?_⟩
  have S:=e.next k E
  refine S.store hr d (x:=X) Q ?_
  intro O G y m
  rw [wiS j (by omega)]
  refine ⟨⟨j+1,T,G,by omega,rfl,B0 C E,y.congr (fun a b _ _=>?_),fun b p=>by rw [m b (p _ hr),l b p]⟩,by simp only [Ec];omega⟩
  show (if a=r/\b=j then R r j/R r c else if a=r/\b<j then R r b/R r c else R a b)=if a=r/\b<j+1 then R r b/R r c else R a b
  by_cases J:a=r/\b=j
  ·obtain ⟨rfl,rfl⟩:=J
   rw [iP ⟨rfl,rfl⟩,iP ⟨rfl,by omega⟩]
  ·rw [iN J]
   by_cases e2:a=r/\b<j
   ·rw [iP e2,iP ⟨e2.1,by omega⟩]
   ·rw [iN e2,iN (by omega)]
 ·have d:j=w:=by omega
  subst d
  refine fin D W o4 C (e.congr (fun a b _ p=>?_)) l
  by_cases q:a=r
  ·rw [iP ⟨q,p⟩,iP q]
  ·rw [iN (fun x=>q x.1),iN q]
end
section
variable {g o h5 h9 hp2:aG} {bo n w r c B k:Nat} {rb:Nat->Nat} {R:Nat->Nat->Rat} {q:Rat} {Invv:LP} {muv:LN} {pA:Option aL} {pc:Nat} {wd wd0:QV} {l:List Nat}
def C6o(hl:l.length=r)(t:Mt h9 g o bo rb n w R)(ow:OwnSl o F2 pA pc (zs l))(ap:Sh bo rb n pA)(iq:NQ g wd q)(hr:r<n)(hcw:c<w)(hn:n<=10000)(hw:w<=10000)(hB1:1<=B)(hq:Sz B q)(hR:∀ a b,a<n->b<w->Sz B (R a b))(hB:B*7<=100000000)
 (fin:∀ h' g' o' A' c' wd',g.le g'->Mt h' g' o' bo rb n w (elimE R r c)->OwnSl o' F2 A' c' (zs (l++[c]))->Sh bo rb n A'->NQ g' wd' (q*R r c)->Invv (.slice A' (r+1) c'::I (B5 ((c:Int)+1))::qc wd') h'/\muv (.slice A' (r+1) c'::I (B5 ((c:Int)+1))::qc wd') h'<muv (.slice pA r pc::I (c:Int)::qc wd0) hp2):
 Na prog (some ⟨bo,0,none⟩) n Invv muv pA r pc (c:Int) wd0.s wd0.A wd0.n wd0.c wd0.s2 wd0.A2 wd0.n2 wd0.c2 wd.s wd.A wd.n wd.c wd.s2 wd.A2 wd.n2 wd.c2 hp2 h9:=by
 unfold Na
 obtain ⟨ch,ae,kh⟩:=t.head hr
 obtain ⟨xf,m,D,L,u,z⟩:=t.elem hr hcw
 refine ⟨_,rfl,by omega,by omega,_,_,_,t.sep.cell kh,_,rfl,by omega,by omega,_,_,_,_,_,_,_,_,t.sep.cell D,t.sep.cell L,t.sep.cell u,t.sep.cell z,?_⟩
 refine t.sep.call (Nu iq m hq (hR _ _ hr hcw) (by omega) ?_)
 intro C g3 J i4 ad T
 refine ⟨_,_,_,_,_,_,_,_,rfl,?_⟩
 refine C6n (B:=B) (t.next T J) hr hcw hn hw (m.mono J) (fun b p=>hR _ b hr p) hB ?_
 intro aa g4 o4 V t4 G
 refine C6m (B:=B) t4 hr hcw hn hw hB1 hR hB ?_
 intro ac g5 W X M j
 have O:∀ b,(∀ i,i<n->b≠rb i)->W b=o b:=fun b p=>by rw [j b p,G b p]
 have F:OwnSl W F2 pA pc (zs l):=ow.keep fun b x hA e=>by rw [O b (fun i hi e=>ap.2 i hi (by rw [<- e];exact hA))];exact e
 have d:(zs l).length=r:=by simp [hl]
 refine N4 (ty:=Fy) C3y M.sep F d.symm (y:=((c:Nat):Int)) rfl (by decide) (by rw [d];omega) (by rw [d];omega) ?_
 intro A6 c6 Q g6 o6 E s6 S f
 obtain ⟨⟨y0,N⟩,H⟩:=M.own
 have t6:=M.keep s6 E (fun k x e hk=>by
  rcases hk with rfl|⟨q,hq,rfl⟩
  ·exact (f _ _ e ap.1).1
  ·exact (f _ _ e (ap.2 q hq)).1)
 rw [d]
 refine fin Q g6 o6 A6 c6 C (B0 J (B0 V (B0 X E))) t6 (by simpa [zs] using S) ⟨(f _ _ N ap.1).2,fun q hq=>?_⟩ (i4.mono (B0 V (B0 X E)))
 obtain ⟨x,Z⟩:=H q hq
 exact (f _ _ Z (ap.2 q hq)).2
def C6p(hl:l.length=r)(t:Mt h5 g o bo rb n w R)(ow:OwnSl o F2 pA pc (zs l))(ap:Sh bo rb n pA)(iq:NQ g wd0 q)(hr:r<n)(hk:k<=n)(hcw:c<w)(hn:n<=10000)(hw:w<=10000)(hB1:1<=B)(hq:Sz B q)(hR:∀ a b,a<n->b<w->Sz B (R a b))(hB:B*7<=100000000)
 (fin0:k=n->Invv (.slice pA r pc::I (B5 ((c:Int)+1))::qc ⟨false,none,0,0,false,none,0,0⟩) h5/\muv (.slice pA r pc::I (B5 ((c:Int)+1))::qc ⟨false,none,0,0,false,none,0,0⟩) h5<muv (.slice pA r pc::I (c:Int)::qc wd0) hp2)
 (fin:k<n->∀ h' g' o' rb' A' c' wd',g.le g'->Mt h' g' o' bo rb' n w (elimE (fun i=>R (xch r k i)) r c)->OwnSl o' F2 A' c' (zs (l++[c]))->Sh bo rb' n A'->NQ g' wd' ((if k=r then q else -q)*R k c)->Invv (.slice A' (r+1) c'::I (B5 ((c:Int)+1))::qc wd') h'/\muv (.slice A' (r+1) c'::I (B5 ((c:Int)+1))::qc wd') h'<muv (.slice pA r pc::I (c:Int)::qc wd0) hp2):
 Nb prog (some ⟨bo,0,none⟩) n Invv muv pA r pc (c:Int) wd0.s wd0.A wd0.n wd0.c wd0.s2 wd0.A2 wd0.n2 wd0.c2 (k:Int) hp2 h5:=by
 unfold Nb
 refine D9 (fun e=>fin0 (by omega)) (fun ai=>?_)
 have f:k<n:=by omega
 have y:∀ i,i<n->xch r k i<n:=fun i D=>Rl hr f D
 have xk:xch r k r=k:=Sy _ _
 refine ⟨fun L hq=>∃ (C W:aG) (d:Nat->Nat) (wd:QV),L=qc wd/\g.le C/\Mt hq C W bo d n w (fun i=>R (xch r k i))/\OwnSl W F2 pA pc (zs l)/\Sh bo d n pA/\NQ C wd (if k=r then q else -q),?_,?_⟩
 ·refine I8 (fun ah=>?_) (fun ag=>?_)
  ·have p:k≠r:=by omega
   obtain ⟨c1,aa,k1⟩:=t.head hr
   obtain ⟨c2,N,k2⟩:=t.head f
   refine ⟨_,rfl,by omega,by omega,_,_,_,t.sep.cell k1,_,rfl,by omega,by omega,_,_,_,t.sep.cell k2,_,rfl,by omega,by omega,?_⟩
   refine t.swap hr f A89 k1 k2 aa N (fun h6 af=>⟨_,rfl,by omega,by omega,af (fun h7 o7 t7 X=>?_)⟩)
   refine t7.sep.call (Ui iq (fun u i3 h8 s8=>⟨_,_,_,_,_,_,_,_,rfl,?_⟩))
   refine ⟨g,o7,_,u,rfl,B4 _,t7.next s8 (B4 _),ow.keep fun b x hA e=>?_,⟨ap.1,fun i D=>ap.2 _ (y i D)⟩,by rw [iN p];exact i3⟩
   rw [X b (fun e=>ap.1 (by rw [<- e];exact hA))];exact e
  ·have m:k=r:=by omega
   refine ⟨g,o,rb,wd0,rfl,B4 _,t.congr (fun i j _ _=>?_),ow,ap,by rw [iP m];exact iq⟩
   rw [m];unfold xch;grind
 rintro e0 S ae Q e2 V ad O h9 ⟨C,W,d,u,ac,T,t2,F,Z,E⟩
 obtain ⟨rfl,_⟩:=C1l ac
 have G:Sz B (if k=r then q else -q):=by
  split
  ·exact hq
  ·exact hq.neg
 refine C6o (wd:=⟨e0,S,ae,Q,e2,V,ad,O⟩) hl t2 F Z E hr hcw hn hw hB1 G (fun a b ha hb=>hR _ b (y a ha) hb) hB ?_
 intro h' g' o' A' c' wd' J t' M H z
 rw [xk] at z
 exact fin f h' g' o' d A' c' wd' (B0 T J) t' M H z
end
section
variable {h:aG} {K:VP} {A:Option aL} {n cap m w:Nat} {M:Nat->Nat->Rat}
def Xj{cols nq:Nat}(rs:RowsV h A n w M)(hn1:1<=n)(hn:n<=10000)(hw1:1<=w)(hw:w<=10000)(hc:cols<=w)(hm1:1<=m)(hs:∀ i j,i<n->j<w->Sz m (M i j))(hnq:∀ c,c<cols->(ecE M n c).cs.length<nq)(hm:7^nq*m<=100000000)
 (hK:∀ h' g' o' bo rb c' A' cap' wd,h.le g'->Mt h' g' o' bo rb n w (ecE M n cols).R->OwnSl o' F2 A' cap' (zs (ecE M n cols).cs)->Sh bo rb n A'->NQ g' wd (B0q M n cols)->
  K (.tuple #[.slice (some ⟨bo,0,none⟩) n c',.slice A' (ecE M n cols).cs.length cap',wd.v]) h'):bC prog Kn #[.slice A n cap,I (cols:Int)] h K:=by
 refine A7v _ _ _ _ ?_
 unfold A9t
 refine B0o rs (by omega) hw1 (by omega) hn1 ?_
 intro h1 g1 o1 bo aj c0 am t1
 refine ⟨_,_,_,rfl,t1.sep.call (B9r ⟨by omega,by omega⟩ ?_)⟩
 intro wd g2 l2 id h2 s2
 have one:((1:Int):Rat)=1:=rfl
 rw [one] at id
 refine ⟨_,_,_,_,_,_,_,_,rfl,fun L F=>∃ (c:Nat) (g o:aG) (rb:Nat->Nat) (A':Option aL) (cap':Nat) (wd:QV),c<=cols/\L= .slice A' (ecE M n c).cs.length cap'::I (c:Int)::qc wd/\h.le g/\Mt F g o bo rb n w (ecE M n c).R/\OwnSl o F2 A' cap' (zs (ecE M n c).cs)/\Sh bo rb n A'/\NQ g wd (ecE M n c).det,fun L _=>cols-(iAt L 1).toNat,
  ⟨0,g2,o1,aj,none,0,wd,by omega,rfl,B0 am l2,t1.next s2 l2,(OwnSl.nil:OwnSl o1 F2 none 0 ([]:List Int)),⟨by simp,fun i hi=>by simp⟩,id⟩,?_⟩
 rintro pA pn O z d0 C D q d2 y u r F ⟨c,g,o,rb,A',cap',f,ay,E,lg,t,W,ap,iq⟩
 simp only [bD,cC,aY,true_and] at E
 obtain ⟨⟨rfl,rfl,rfl⟩,rfl,E⟩:=E
 obtain ⟨rfl,_⟩:=C1l (by simpa only [bD,cJ,aY,and_true] using E:(.bool d0:cG) :: .slice C D q :: .bool d2 :: .slice y u r::[]= .bool f.s :: .slice f.A f.n f.c :: .bool f.s2 :: .slice f.A2 f.n2 f.c2::[])
 have au:=Ee M n c
 have ac:∀ (he:ecE M n cols=ecE M n c),Br (decide ((((ecE M n c).cs.length:Nat):Int)<(cols:Int))) (K (.tuple #[.slice (some ⟨bo,0,none⟩) n c0,.slice pA (ecE M n c).cs.length O,.agg #[.bool false,.slice none 0 0,.bool false,.slice none 0 0]]) F)
  (K (.tuple #[.slice (some ⟨bo,0,none⟩) n c0,.slice pA (ecE M n c).cs.length O,.agg #[.bool d0,.slice C D q,.bool d2,.slice y u r]]) F):=by
  intro he
  rw [<- he] at t W iq ⊢
  refine B6 (fun T=>?_) (fun aa=>?_)
  ·have e:B0q M n cols=0:=by unfold B0q;rw [iP (by omega)]
   exact hK F g o bo rb c0 pA O ⟨false,none,0,0,false,none,0,0⟩ lg t W ap (by rw [e];exact NQ.zero)
  ·have e:B0q M n cols=(ecE M n cols).det:=by unfold B0q;rw [iN (by omega)]
   exact hK F g o bo rb c0 pA O ⟨d0,C,D,q,d2,y,u,r⟩ lg t W ap (by rw [e];exact iq)
 refine B6 (fun T=>?_) (fun aa=>ac (by have:c=cols:=by omega
                                       rw [this]))
 have V:c<cols:=by omega
 have Z:c<w:=by omega
 refine B6 (fun H=>?_) (fun H=>ac (by
  have:=B2w (n:=n) (s:=⟨M,[],1⟩) (c:=c) (by show n<=(ecE M n c).cs.length;omega) (cols-c)
  rw [show c+(cols-c)=cols by omega] at this
  exact this))
 have G:(ecE M n c).cs.length<n:=by omega
 have aq:=(SzE.run (n:=n) (w:=w) (m:=m) (s:=⟨M,[],1⟩) ⟨fun a b ha hb=>by show Sz (7^0*m) (M a b);rw [dY,aQ];exact hs a b ha hb,by show Sz (7^0*m) 1;rw [dY,aQ];exact Sz.int (z:=1) (ZB.one hm1) hm1,bL _⟩ hm1 c (by omega))
 have p:SzE n w m (ecE M n c):=aq
 have d:ecE M n (c+1)=Gb n c (ecE M n c):=rfl
 have av:7^(ecE M n c).cs.length*m*7<=7^nq*m:=by
  have h1:7^(ecE M n c).cs.length*7<=7^nq:=by rw [<- dZ];exact cU (by decide) (hnq c V)
  calc 7^(ecE M n c).cs.length*m*7=7^(ecE M n c).cs.length*7*m:=by rw [dD,aO m 7,<- dD]
   _<=7^nq*m:=aD _ h1
 have ai:=Tf (ecE M n c).cs.length m hm1
 obtain ⟨r1,r2,r3,r4⟩:=Yg n c (ecE M n c) p.len
 have S:B5 ((c:Int)+1)=((c+1:Nat):Int):=by rw [B7]<;>omega
 generalize hst:ecE M n c=st at *
 generalize hB:7^st.cs.length*m=B at *
 refine ⟨fun L Q=>L=[I ((Ht n c st:Nat):Int)]/\Q=F,⟨fun L Q=>∃ k:Nat,st.cs.length<=k/\k<=Ht n c st/\L=[I (k:Int)]/\Q=F,fun L _=>n-(iAt L 0).toNat,⟨st.cs.length,aE _,r1,rfl,rfl⟩,?_⟩,?_⟩
 ·rintro z Q ⟨k,ao,aw,E,rfl⟩
  obtain rfl:=sI1 E
  refine B6 (fun T=>?_) (fun aa=>⟨by have:k=Ht n c st:=by omega
                                     rw [this],rfl⟩)
  have N:k<n:=by omega
  obtain ⟨ch,ax,J⟩:=t.head N
  obtain ⟨x,ix,x0,x1,x2,x3⟩:=t.elem N Z
  refine ⟨_,rfl,by omega,by omega,_,_,_,t.sep.cell J,_,rfl,by omega,by omega,_,_,_,_,_,_,_,_,t.sep.cell x0,t.sep.cell x1,t.sep.cell x2,t.sep.cell x3,?_⟩
  refine Ke (ix.mono t.sep.le) ⟨_,rfl,D9 (fun e=>?_) (fun e=>?_)⟩
  ·have e0:st.R k c=0:=by rw [dS] at e;exact Rat.num_eq_zero.1 e
   have ar:k<Ht n c st:=by
    by_cases hx:k<Ht n c st
    ·exact hx
    ·exfalso
     have al:k=Ht n c st:=by omega
     exact r3 (by omega) (by rw [<- al];exact e0)
   rw [wiS k (by omega)]
   exact ⟨⟨k+1,by omega,by omega,rfl,rfl⟩,by simp only [Ec];omega⟩
  ·have e0:st.R k c≠0:=fun h=>e (by rw [h];rfl)
   have:k=Ht n c st:=by
    by_cases hx:k<Ht n c st
    ·exact absurd (r4 k ao hx) e0
    ·omega
   exact ⟨by rw [this],rfl⟩
 rintro k1 Q ⟨E,rfl⟩
 obtain rfl:k1=((Ht n c st:Nat):Int):=by simpa using E
 refine C6p (B:=B) (wd0:=⟨d0,C,D,q,d2,y,u,r⟩) rfl t W ap iq G r2 Z hn hw ai (by rw [<- hB];exact p.det) (fun a b ha hb=>by rw [<- hB];exact p.R a b ha hb) (by omega) (fun az=>?_) (fun ak=>?_)
 ·have l:Gb n c st={ st with det:=0 }:=by unfold Gb;rw [iP G,iN (by omega)]
  rw [S]
  refine ⟨⟨c+1,g,o,rb,pA,O,⟨false,none,0,0,false,none,0,0⟩,by omega,?_,lg,?_⟩,?_⟩
  ·rw [d,l]
  ·rw [d,l];exact ⟨t,W,ap,NQ.zero⟩
  ·show cols-((c+1:Nat):Int).toNat<cols-((c:Nat):Int).toNat
   omega
 ·intro h' g' o' ag A6 c6 ah ae t' af an ad
  have l:Gb n c st={ R:=elimE (fun i=>st.R (xch st.cs.length (Ht n c st) i)) st.cs.length c,cs:=st.cs++[c],det:=(if Ht n c st=st.cs.length then st.det else-st.det)*st.R (Ht n c st) c }:=by unfold Gb;rw [iP G,iP ak]
  have X:(st.cs++[c]).length=st.cs.length+1:=by simp
  rw [S]
  refine ⟨⟨c+1,g',o',ag,A6,c6,ah,by omega,?_,B0 lg ae,?_⟩,?_⟩
  ·rw [d,l,X]
  ·rw [d,l];exact ⟨t',af,an,ad⟩
  ·show cols-((c+1:Nat):Int).toNat<cols-((c:Nat):Int).toNat
   omega
def A0z{cols:Nat}(rs:RowsV h A n w M)(hn1:1<=n)(hn:n<=10000)(hw1:1<=w)(hw:w<=10000)(hc:cols<=w)(hm1:1<=m)(hs:∀ i j,i<n->j<w->Sz m (M i j))(hm:7^cols*m<=100000000)
 (hK:∀ h' g' o' bo rb c' A' cap' wd,h.le g'->Mt h' g' o' bo rb n w (ecE M n cols).R->OwnSl o' F2 A' cap' (zs (ecE M n cols).cs)->Sh bo rb n A'->NQ g' wd (B0q M n cols)->
  K (.tuple #[.slice (some ⟨bo,0,none⟩) n c',.slice A' (ecE M n cols).cs.length cap',wd.v]) h'):bC prog Kn #[.slice A n cap,I (cols:Int)] h K:=Xj rs hn1 hn hw1 hw hc hm1 hs (fun c a=>dG (Ee M n c).1 a) hm hK
end
section
variable {h:aG} {K:VP} {A B:Option aL} {n m a b:Nat} {r c r2 c2:Int} {ls ls2:Nat->List UInt8}
def C32{xs:List Int}(s:SlF h A xs){i:Nat}(hi:i<xs.length):∃ x,A=some x/\h.cell? (aF x (i*1))=some (I xs[i]):=by
 obtain ⟨x,e,a⟩:=SlF.at (by decide) s hi
 have:=a 0 _ rfl
 rw [Jg] at this
 exact ⟨x,e,this⟩
structure Small (r c:Int) (n:Nat) (ls:Nat->List UInt8) (k d:Int):Prop where
 hr:r<=k
 hc:c<=k
 hn:(n:Int)<=k*k+2
 hl:∀ i,i<n->((ls i).length:Int)<=d
end
def Qh(R:Nat->Nat->Rat)(cs:List Nat)(c:Nat):Nat->Nat->Rat
 | 0=>fun j=>if j=c then 1 else 0
 | k+1=>fun j=>if j=cs.getD k 0 then-R k c else Qh R cs c k j
def Q6(cs:List Nat):Nat->List Nat
 | 0=>[]
 | c+1=>if c∈cs then Q6 cs c else Q6 cs c++[c]
def Kz(cs:List Nat):Nat->Nat
 | 0=>0
 | c+1=>if c∈cs then Kz cs c+1 else Kz cs c
def Yt(cs:List Nat):∀ c,(Q6 cs c).length+Kz cs c=c:=by
 intro c
 induction c with
 | zero=>rfl
 | succ c ih=>
  show (if c∈cs then Q6 cs c else Q6 cs c++[c]).length+(if c∈cs then Kz cs c+1 else Kz cs c)=c+1
  split
  ·omega
  ·rw [aC];simp only [cL,dN];omega
def A45(cs:List Nat):∀ c,∀ x∈Q6 cs c,x<c/\x∉cs:=by
 intro c
 induction c with
 | zero=>intro x a;exact absurd a (by simp [Q6])
 | succ c ih=>
  intro x a
  unfold Q6 at a
  split at a
  ·have:=ih x a;exact ⟨by omega,this.2⟩
  ·rename_i b
   rcases List.mem_append.1 a with a|a
   ·have:=ih x a;exact ⟨by omega,this.2⟩
   ·simp only [List.mem_cons,List.not_mem_nil,or_false] at a
    subst a;exact ⟨by omega,b⟩
def A9b{cs:List Nat}(h:cs.Pairwise (· < ·)):∀ c,Kz cs c<=cs.length/\(∀ i (hi:i<cs.length),i<Kz cs c->cs[i]<c)/\(∀ i (hi:i<cs.length),Kz cs c<=i->c<=cs[i]):=by
 intro c
 induction c with
 | zero=>exact ⟨bL _,fun i hi h=>absurd h (Nat.not_lt_zero _),fun _ _ _=>bL _⟩
 | succ c ih=>
  obtain ⟨m,f,j⟩:=ih
  have pw:=List.pairwise_iff_getElem.1 h
  unfold Kz
  split
  ·rename_i d
   obtain ⟨k,b,e⟩:=List.getElem_of_mem d
   have:Kz cs c<=k:=Nat.not_lt.1 fun a=>by have:=f k b a;omega
   have n:k=Kz cs c:=Nat.le_antisymm (Nat.not_lt.1 fun a=>by
    have g:Kz cs c<cs.length:=by omega
    have:=pw (Kz cs c) k g b a
    have:=j (Kz cs c) g (aE _)
    omega) this
   refine ⟨by omega,fun i hi a=>?_,fun i hi a=>?_⟩
   ·by_cases l:i=k
    ·subst l;omega
    ·have:=f i hi (by omega);omega
   ·have:=pw k i b hi (by omega);omega
  ·rename_i d
   refine ⟨m,fun i hi a=>by have:=f i hi a;omega,fun i hi a=>?_⟩
   have:=j i hi a
   have:cs[i]≠c:=fun e=>d (e▸cZ hi)
   omega
def A6o{cs:List Nat}(h:cs.Pairwise (· < ·))(c:Nat):c∈cs ↔ ∃ hk:Kz cs c<cs.length,cs[Kz cs c]=c:=by
 obtain ⟨j,g,i⟩:=A9b h c
 constructor
 ·intro f
  obtain ⟨k,hk,e⟩:=List.getElem_of_mem f
  have a:Kz cs c<=k:=Nat.not_lt.1 fun b=>by have:=g k hk b;omega
  have d:Kz cs c<cs.length:=by omega
  refine ⟨d,Nat.le_antisymm ?_ (i _ d (aE _))⟩
  rcases Nat.lt_or_ge (Kz cs c) k with b|b
  ·have:=List.pairwise_iff_getElem.1 h _ _ d hk b;omega
  ·have:Kz cs c=k:=by omega
   subst this;omega
 ·rintro ⟨hk,e⟩
  rw [<- e];exact cZ hk
def B7w{R:Nat->Nat->Rat}{cs:List Nat}{c n w m:Nat}(hR:∀ i j,i<n->j<w->Sz m (R i j))(hc:c<w)(hn:cs.length<=n)(hm:1<=m):∀ k,k<=cs.length->∀ j,Sz m (Qh R cs c k j):=by
 intro k
 induction k with
 | zero=>
  intro _ j
  show Sz m (if j=c then 1 else 0)
  split
  ·exact ⟨ZB.one hm,ZB.one hm⟩
  ·exact Sz.zero hm
 | succ k ih=>
  intro a j
  show Sz m (if j=cs.getD k 0 then-R k c else Qh R cs c k j)
  split
  ·have h:=hR k c (by omega) hc
   refine ⟨?_,?_⟩
   ·rw [Rat.neg_num];exact h.num.le (by rw [Int.natAbs_neg];exact aE _)
   ·rw [Rat.neg_den];exact h.den
  ·exact ih (by omega) j
def C4b(R:Nat->Nat->Rat)(cs:List Nat)(cols:Nat):Nat->Nat->Rat:=fun i=>Qh R cs ((Q6 cs cols).getD i 0) cs.length
section
variable {h:aG} {K:VP} {A B:Option aL} {n cap m:Nat} {r c:Int} {ls:Nat->List UInt8}
def A3r{E:Nat->Rat}{rows cols:Nat}(hs:∀ i,i<rows*cols->Sz m (E i)):∀ i j,i<rows->j<cols->Sz m (mtx E cols i j):=fun _ _ a b=>hs _ (Bp a b)
def B4m{M:Nat->Nat->Rat}{n w c nq:Nat}(hs:∀ i j,i<n->j<w->Sz m (M i j))(hm:1<=m)(hc:c<=w)(hnq:(ecE M n c).cs.length<=nq){b:Nat}(hb:7^nq*m<=b):(∀ i j,i<n->j<w->Sz b ((ecE M n c).R i j))/\Sz b (ecE M n c).det:=by
 have z:SzE n w m ⟨M,[],1⟩:=⟨fun i j a d=>by simpa using hs i j a d,by simpa using (⟨ZB.one hm,ZB.one hm⟩:Sz m 1),bL _⟩
 have y:=z.run hm c hc
 have e:7^(ecE M n c).cs.length*m<=7^nq*m:=aD _ (cU (by decide) hnq)
 exact ⟨fun i j a d=>(y.R i j a d).mono (by show 7^(ecE M n c).cs.length*m<=b;omega),y.det.mono (by show 7^(ecE M n c).cs.length*m<=b;omega)⟩
def C4m{M:Nat->Nat->Rat}{n w c:Nat}(hs:∀ i j,i<n->j<w->Sz m (M i j))(hm:1<=m)(hc:c<=w){b:Nat}(hb:7^c*m<=b):(∀ i j,i<n->j<w->Sz b ((ecE M n c).R i j))/\Sz b (ecE M n c).det:=B4m hs hm hc (Ee M n c).1 hb
end
def C20(cs:List Nat){i:Nat}(hi:i<cs.length):(zs cs)[i]'(by rw [dO];exact hi)=((cs.getD i 0:Nat):Int):=by
 rw [List.getElem_map,aJ,aI hi];rfl
def B3d{h:aG}{A:Option aL}{cs:List Nat}(s:SlF h A (zs cs)){i:Nat}(hi:i<cs.length):∃ x,A=some x/\h.cell? (aF x (i*1))=some (I ((cs.getD i 0:Nat):Int)):=by
 obtain ⟨x,e,a⟩:=C32 s (i:=i) (by rw [dO];exact hi)
 rw [C20 cs hi] at a
 exact ⟨x,e,a⟩
def B40{cs:List Nat}{c:Nat}(h:Asc cs c){i:Nat}(hi:i<cs.length):cs.getD i 0<c:=by
 rw [aJ,aI hi];exact h.lt _ (cZ hi)
def A0w{cs:List Nat}{c:Nat}(h:c∈cs):Q6 cs (c+1)=Q6 cs c:=iP h
def Vc{cs:List Nat}{c:Nat}(h:c∉cs):Q6 cs (c+1)=Q6 cs c++[c]:=iN h
def C1q{cs:List Nat}{c:Nat}(h:c∈cs):Kz cs (c+1)=Kz cs c+1:=iP h
def B7u{cs:List Nat}{c:Nat}(h:c∉cs):Kz cs (c+1)=Kz cs c:=iN h
def B43{cs:List Nat}{c:Nat}(h:c∉cs){i:Nat}(hi:i<(Q6 cs c).length):(Q6 cs c).getD i 0=(Q6 cs (c+1)).getD i 0:=by
 rw [Vc h,aJ,aJ,aU hi]
def B0l{cs:List Nat}{c:Nat}(h:c∉cs):(Q6 cs (c+1)).getD (Q6 cs c).length 0=c:=by
 rw [Vc h,aJ,bB (aE _),Nat.sub_self];rfl
section
variable {h:aG} {K:VP} {A:Option aL} {n cap m w:Nat} {r c:Int} {ls:Nat->List UInt8} {M:Nat->Nat->Rat}
def B0n(rs:RowsV h A n w M)(hn1:1<=n)(hn:n<=10000)(hw1:1<=w)(hw:w<=10000)(hm1:1<=m)(hs:∀ i j,i<n->j<w->Sz m (M i j))(hm:7^w*m<=100000000)
 (hK:∀ A' c' h',h.le h'->RowsV h' A' (Q6 (ecE M n w).cs w).length w (C4b (ecE M n w).R (ecE M n w).cs w)->K (.slice A' (Q6 (ecE M n w).cs w).length c') h'):bC prog A72 #[.slice A n cap] h K:=by
 refine B9j _ _ _ ?_
 unfold C5p
 obtain ⟨a,sv,rfl,e1,e2,hc,_⟩:=rs.at (i:=0) (by omega)
 refine ⟨a,rfl,by omega,by omega,_,_,_,hc,?_⟩
 rw [e1]
 refine A0z rs hn1 hn hw1 hw (aE _) hm1 hs hm ?_
 intro h2 g2 o2 bo rb c2 A2 ar wd l2 t H ap iq
 refine ⟨_,_,_,_,_,_,_,_,_,_,_,_,_,_,rfl,?_⟩
 have f:=Te n ⟨M,[],1⟩ rfl w
 have aq:=Ee M n w
 have ah:=t.rowsV
 have sp:=H.slF t.sep.ole
 have lh:=B0 l2 t.sep.le
 clear t H ap iq
 change Asc (ecE M n w).cs w at f
 generalize (ecE M n w).cs=cs at *
 generalize (ecE M n w).R=R at *
 refine ⟨fun L hp=>∃ (c:Nat) (g o:aG) (B:List HV) (A':Option aL) (c':Nat),c<=w/\L=[.slice A' (Q6 cs c).length c',I (Kz cs c:Int),I (c:Int)]/\h2.le g/\Sep hp g o/\OwnSl o En A' c' B/\B.length=(Q6 cs c).length/\Row (RWr w) g B (Q6 cs c).length (fun i=>Qh R cs ((Q6 cs c).getD i 0) cs.length),fun L _=>w-(iAt L 2).toNat,
  ⟨0,h2,Bn,[],none,0,by omega,rfl,B4 _,Sep.refl h2,OwnSl.nil,rfl,Row.nil⟩,?_⟩
 rintro oA on oc k z hp ⟨c,g,o,B,A',c',ay,J,lg,s,H,d,rr⟩
 simp only [bD,cC,aY,true_and,and_true] at J
 obtain ⟨⟨rfl,rfl,rfl⟩,rfl,rfl⟩:=J
 have V:=B0 lg s.le
 refine B6 (fun al=>?_) (fun am=>?_)
 ·have D:c<w:=by omega
  have au:=(A9b f.asc c).1
  have av:=Yt cs c
  have ec:B5 ((c:Int)+1)=((c+1:Nat):Int):=by rw [B7]<;>omega
  refine ⟨fun L q=>L=[I (Kz cs c:Int)]/\q=hp/\c∉cs,B6 (fun G=>?_) (fun G=>⟨rfl,rfl,fun hm=>?_⟩),?_⟩
  ·have p:Kz cs c<cs.length:=by omega
   obtain ⟨u,eu,E⟩:=B3d (sp.mono V) p
   have az:cs.getD (Kz cs c) 0=cs[Kz cs c]:=by rw [aJ,aI p];rfl
   refine ⟨u,eu,by omega,by omega,_,E,D9 (fun e=>?_) (fun e=>⟨rfl,rfl,fun hm=>?_⟩)⟩
   ·have hm:c∈cs:=(A6o f.asc c).2 ⟨p,by omega⟩
    rw [ec,show B5 ((Kz cs c:Int)+1)=((Kz cs c+1:Nat):Int) by rw [B7]<;>omega]
    refine ⟨⟨c+1,g,o,B,oA,oc,by omega,by rw [A0w hm,C1q hm],lg,s,H,by rw [A0w hm];exact d,by rw [A0w hm];exact rr⟩,?_⟩
    show w-((c+1:Nat):Int).toNat<w-(c:Int).toNat
    omega
   ·obtain ⟨_,e2⟩:=(A6o f.asc c).1 hm
    omega
  ·obtain ⟨p,_⟩:=(A6o f.asc c).1 hm
   omega
  rintro k1 ax ⟨J,rfl,r⟩
  obtain rfl:k1=(Kz cs c:Int):=by simpa using J
  refine K6 A09 (zx:=Ay) rfl (by omega) (by omega) (by omega) (by omega) ?_
  intro b hb
  simp only [aH]
  have ob:∀ q x,o q=some x->q≠b:=by
   rintro q x e rfl
   rw [s.own q x e] at hb;cases hb
  refine ⟨_,_,_,rfl,Sep.call (s.new hb _) (B9r ⟨by omega,by omega⟩ ?_)⟩
  intro wd Z l3 id h3 s3
  have one:((1:Int):Rat)=1:=rfl
  rw [one] at id
  refine ⟨_,_,_,_,_,_,_,_,rfl,_,rfl,by omega,by omega,?_⟩
  refine S4 Cu (y:=wd) rfl s3 RowX.mk (i:=c) (by rw [aK];exact D) ?_
  intro h4 o4 x4 ad s4 ag
  have C:∀ k,k≠b->o4 k=o k:=fun k G=>by rw [ad,B8 _ _ G,B8 _ _ G]
  have r0:Row NQr Z (aP w Ay) w (fun _=>0):=fun i hi=>⟨Ay,by rw [cP,iP hi],NQ.zero⟩
  have r1:Row NQr Z ((aP w Ay).set c wd) w (Qh R cs c 0):=r0.upd (by rw [aK];exact D) id
  refine ⟨fun L q=>∃ (i:Nat) (g' o':aG) (N:List QV),i<=cs.length/\L=[I (i:Int)]/\Z.le g'/\Sep q g' o'/\RowX o' b N/\N.length=w/\Row NQr g' N w (Qh R cs c i)/\(∀ k,k≠b->o' k=o k),fun L _=>cs.length-(iAt L 0).toNat,⟨0,Z,o4,_,by omega,rfl,B4 _,s4,ag,by rw [bO,aK],r1,C⟩,?_⟩
  rintro z q ⟨i,g5,o5,N,hi,J,l5,l,S,hy,O,T⟩
  obtain rfl:=sI1 J
  have X:=B0 lg (B0 l3 l5)
  refine B6 (fun al=>?_) (fun am=>?_)
  ·have Q:i<cs.length:=by omega
   obtain ⟨u,eu,E⟩:=B3d (sp.mono (B0 X l.le)) Q
   obtain ⟨a4,aw,af,f1,f2,an,W⟩:=ah.at (i:=i) (by omega)
   obtain ⟨a5,w5,e5,n5,c0,c1,ac,c3⟩:=(W.mono Q5 X).qat D
   have a0:=B40 f Q
   refine ⟨u,eu,by omega,by omega,_,E,a4,af,by omega,by omega,_,_,_,B9 (B0 X l.le) an,a5,e5,by omega,by omega,_,_,_,_,_,_,_,_,B9 l.le c0,B9 l.le c1,B9 l.le ac,B9 l.le c3,?_⟩
   refine l.call (Ui n5 ?_)
   intro w6 i6 h6 s6
   refine ⟨_,_,_,_,_,_,_,_,rfl,l.le_le s6 (B4 _),_,rfl,by omega,by omega,?_⟩
   refine S4 Cu (y:=w6) rfl s6 S (i:=cs.getD i 0) (by omega) ?_
   intro h7 o7 x7 aa s7 ao
   rw [wiS i (by omega)]
   exact ⟨⟨i+1,g5,o7,_,by omega,rfl,l5,s7,ao,by rw [bO];exact hy,O.upd (by omega) i6,fun k G=>by rw [aa,B8 _ _ G];exact T k G⟩,by simp only [Ec];omega⟩
  ·have:i=cs.length:=by omega
   subst this
   obtain ⟨g8,l8,s8⟩:=l.give (o2:=o) (fun k x e=>by rw [T k (ob k x e)];exact e)
   have ak:o b=none:=by
    cases hx:o b with
    | none=>rfl
    | some y=>exact absurd rfl (ob b y hx)
   have ai:RowX g8 b N:=S.keep fun x e=>by rw [<- s8.rest b ak];exact l.own b x e
   have ae:RWr w g8 (⟨some ⟨b,0,none⟩,w,w⟩:HV) (Qh R cs c cs.length):=⟨rfl,aE _,N,ai.rowB.slF (B4 _),hy,O.mono Q5 l8⟩
   refine N4 (ty:=A5y) C68 s8 H d.symm (y:=(⟨some ⟨b,0,none⟩,w,w⟩:HV)) rfl (by decide) (by rw [d];omega) (by rw [d];omega) ?_
   intro A3 c3 h9 g9 o9 l9 s9 aj kp
   rw [ec,d]
   have F:(Q6 cs (c+1)).length=(Q6 cs c).length+1:=by rw [Vc r,aC];rfl
   refine ⟨⟨c+1,g9,o9,_,A3,c3,by omega,by rw [F,B7u r],B0 X (B0 l8 l9),s9,aj,by rw [aC,d,F];rfl,?_⟩,?_⟩
   ·have rA:Row (RWr w) g9 B B.length (fun i=>Qh R cs ((Q6 cs (c+1)).getD i 0) cs.length):=by
     rw [d]
     exact (rr.mono (C1v w) (B0 l3 (B0 l5 (B0 l8 l9)))).congr fun i hi=>by rw [B43 r hi]
    have rB:=rA.push (w:=(⟨some ⟨b,0,none⟩,w,w⟩:HV)) (by rw [d];show RWr w g9 _ (Qh R cs ((Q6 cs (c+1)).getD (Q6 cs c).length 0) cs.length);rw [B0l r];exact C1v w _ _ _ _ l9 ae)
    rw [aC,d] at rB
    rw [F]
    exact rB
   ·show w-((c+1:Nat):Int).toNat<w-(c:Int).toNat
    omega
 ·have:c=w:=by omega
  subst this
  refine hK oA oc hp (B0 lh V) ?_
  exact RowsV.of ⟨B,H.slF s.ole,d,rr.mono (C1v c) s.le⟩
end
section
variable {α β:Type} {R:aG->α->β->Prop} {g:aG}
def Row.app{xs ys:List α}{f:Nat->β}{p q:Nat}(hp:xs.length=p)(r:Row R g xs p f)(r2:Row R g ys q (fun j=>f (p+j))):Row R g (xs++ys) (p+q) f:=fun i b=>by
 by_cases h:i<p
 ·obtain ⟨w,e,x⟩:=r i h
  exact ⟨w,by rw [aU (by omega)];exact e,x⟩
 ·obtain ⟨w,e,x⟩:=r2 (i-p) (by omega)
  refine ⟨w,by rw [bB (by omega),hp];exact e,?_⟩
  have a:p+(i-p)=i:=by omega
  show R g w (f i)
  rw [<- a];exact x
end
section
variable {h:aG} {K:VP} {A:Option aL} {n cap m:Nat} {r c:Int} {ls:Nat->List UInt8}
def A60{z:Int}(hz: -9223372036854775808<=z/\z<=9223372036854775807)(hK:∀ w h',h.le h'->RQ h' w (z:Rat)->K w.v h'):bC prog A1a #[I z] h K:=by
 refine B5p _ ?_
 unfold C0i
 exact Ek hz.1 hz.2 fun b A1 a c1 h' l i=>⟨_,_,_,_,rfl,hK _ h' l (A8e i)⟩
end
def L5(E b:Nat->Rat)(cols:Nat):Nat->Rat:=fun k=>if k%(cols+1)<cols then E (k/(cols+1)*cols+k%(cols+1)) else b (k/(cols+1))
def dm1{i j c:Nat}(hj:j<c):(i*c+j)/c=i/\(i*c+j)%c=j:=by
 rw [cR,bN,cK hj,cD _ _ (by omega),bM hj,aN]
 exact ⟨rfl,rfl⟩
def Hz(E b:Nat->Rat){cols i j:Nat}(hj:j<cols):mtx (L5 E b cols) (cols+1) i j=mtx E cols i j:=by
 obtain ⟨a,c⟩:=dm1 (i:=i) (show j<cols+1 by omega)
 show L5 E b cols (i*(cols+1)+j)=_
 unfold L5
 rw [a,c,iP hj]
 rfl
def Jx(E b:Nat->Rat)(cols i:Nat):mtx (L5 E b cols) (cols+1) i cols=b i:=by
 obtain ⟨a,c⟩:=dm1 (i:=i) (show cols<cols+1 by omega)
 show L5 E b cols (i*(cols+1)+cols)=_
 unfold L5
 rw [a,c,iN (aS cols)]
def A81{E b:Nat->Rat}{rows cols m:Nat}(hs:∀ i,i<rows*cols->Sz m (E i))(hb:∀ i,i<rows->Sz m (b i)):∀ i,i<rows*(cols+1)->Sz m (L5 E b cols i):=by
 intro i c
 have a:i/(cols+1)<rows:=cI (by rw [aO];exact c)
 unfold L5
 by_cases e:i%(cols+1)<cols
 ·rw [iP e];exact hs _ (Bp a e)
 ·rw [iN e];exact hb _ a
abbrev Nd(E b:Nat->Rat)(rows cols:Nat):ES:=elE (L5 E b cols) rows (cols+1) cols
def Ms(E b:Nat->Rat)(rows cols:Nat):Prop:=∀ i,i<rows->(Nd E b rows cols).cs.length<=i->(Nd E b rows cols).R i cols=0
def A39(E b:Nat->Rat)(rows cols:Nat):Nat->Rat:=Xe (fun _=>0) (fun m=>(Nd E b rows cols).R m cols) 0 (Nd E b rows cols).cs
def B37(f:Nat->Rat)(cs:List Nat):Nat->Nat->Rat
 | 0=>fun _=>0
 | k+1=>fun j=>if j=cs.getD k 0 then f k else B37 f cs k j
def B36(f:Nat->Rat)(cs:List Nat):∀ k,k<=cs.length->Xe (B37 f cs k) f k (cs.drop k)=Xe (fun _=>0) f 0 cs:=by
 intro k
 induction k with
 | zero=>intro _;rfl
 | succ k ih=>
  intro a
  rw [<- ih (by omega),List.drop_eq_getElem_cons (show k<cs.length by omega)]
  have e:cs.getD k 0=cs[k]:=by rw [aJ,aI (by omega)];rfl
  show Xe (B37 f cs (k+1)) f (k+1) (cs.drop (k+1))=Xe (fun j=>if j=cs[k] then f k else B37 f cs k j) f (k+1) (cs.drop (k+1))
  rw [<- e]
  rfl
def A0k(f:Nat->Rat)(cs:List Nat):B37 f cs cs.length=Xe (fun _=>0) f 0 cs:=by
 have:=B36 f cs cs.length (aE _)
 rw [List.drop_length] at this
 exact this
def A38(E b:Nat->Rat)(rows cols:Nat):EqA rows (cols+1) cols (mtx (L5 E b cols) (cols+1)) (Nd E b rows cols):=EqA.run _ cols (by omega)
def A4r{cs:List Nat}{c:Nat}(h:Asc cs c):cs.Nodup:=h.asc.imp fun h=>Nat.ne_of_lt h
def C1e{E b:Nat->Rat}{rows cols:Nat}(h:Ms E b rows cols){i:Nat}(hi:i<rows):sm cols (fun j=>mtx E cols i j*A39 E b rows cols j)=b i:=by
 have a:(Nd E b rows cols).cs.Nodup:=A4r (Te rows ⟨_,[],1⟩ rfl cols)
 have:=(A38 E b rows cols).sol a h hi
 rw [Jx] at this
 rw [<- this]
 exact C8 fun j c=>by rw [Hz E b c];rfl
def C41{E b:Nat->Rat}{rows cols:Nat}(x:Nat->Rat)(h:∀ i,i<rows->sm cols (fun j=>mtx E cols i j*x j)=b i):Ms E b rows cols:=by
 intro i c e
 obtain ⟨T,d⟩:=(A38 E b rows cols).comb
 rw [d i cols c (by omega)]
 have k:∀ j,j<cols->sm rows (fun l=>T i l*mtx E cols l j)=0:=by
  intro j a
  rw [C8 (g:=fun l=>T i l*mtx (L5 E b cols) (cols+1) l j) fun l _=>by rw [Hz E b a],<- d i j c (by omega)]
  exact (A38 E b rows cols).zero i j c e a
 rw [C8 (g:=fun l=>sm cols fun j=>T i l*mtx E cols l j*x j) fun l f=>by
  rw [Jx,<- h l f,<- Hh]
  exact C8 fun j _=>(dT _ _ _).symm]
 rw [A66]
 refine T4 fun j a=>?_
 rw [C8 (g:=fun l=>x j*(T i l*mtx E cols l j)) fun l _=>aW _ _,Hh,k j a,aT]
def A8b{E b:Nat->Rat}{rows cols:Nat}(h:¬ Ms E b rows cols):∃ y:Nat->Rat,(∀ j,j<cols->sm rows (fun l=>y l*mtx E cols l j)=0)/\sm rows (fun l=>y l*b l)=1:=by
 have:∃ i,i<rows/\(Nd E b rows cols).cs.length<=i/\(Nd E b rows cols).R i cols≠0:=by
  refine bG fun g=>h fun i c d=>bG fun a=>g ⟨i,c,d,a⟩
 obtain ⟨i,c,d,a⟩:=this
 obtain ⟨y,f,k⟩:=(A38 E b rows cols).none c d a
 refine ⟨y,fun j e=>?_,?_⟩
 ·rw [<- f j e]
  exact C8 fun l _=>by rw [Hz E b e]
 ·rw [<- k]
  exact C8 fun l _=>by rw [Jx]
def A2o(E b:Nat->Rat)(rows cols:Nat):Nat->Rat:=fun k=>if k<cols*rows then E (k%rows*cols+k/rows) else b (k-cols*rows)
def B31(cols:Nat):Nat->Rat:=fun i=>if i=cols then 1 else 0
def A8g(E b:Nat->Rat){rows cols i j:Nat}(hi:i<cols)(hj:j<rows):mtx (A2o E b rows cols) rows i j=mtx E cols j i:=by
 obtain ⟨a,c⟩:=dm1 (i:=i) hj
 show A2o E b rows cols (i*rows+j)=_
 unfold A2o
 rw [iP (Bp hi hj),a,c]
 rfl
def A3l(E b:Nat->Rat){rows cols j:Nat}:mtx (A2o E b rows cols) rows cols j=b j:=by
 show A2o E b rows cols (cols*rows+j)=_
 unfold A2o
 rw [iN (by omega),cO]
def C43{E b:Nat->Rat}{rows cols:Nat}(h:¬ Ms E b rows cols):Ms (A2o E b rows cols) (B31 cols) (cols+1) rows:=by
 obtain ⟨y,a,d⟩:=A8b h
 refine C41 y fun i f=>?_
 unfold B31
 by_cases e:i=cols
 ·subst e
  rw [iP rfl,<- d]
  exact C8 fun j _=>by rw [A3l,aW]
 ·rw [iN e,<- a i (by omega)]
  exact C8 fun j c=>by rw [A8g E b (by omega) c,aW]
def C1f{E b:Nat->Rat}{rows cols m B:Nat}(hB:1<=B)(hs:∀ i j,i<rows->j<cols+1->Sz B ((Nd E b rows cols).R i j))(j:Nat):Sz B (A39 E b rows cols j):=by
 have c:(Nd E b rows cols).cs.length<=rows:=(Ee (mtx (L5 E b cols) (cols+1)) rows cols).2
 unfold A39
 rw [<- A0k]
 have:∀ k,k<=(Nd E b rows cols).cs.length->Sz B (B37 (fun m=>(Nd E b rows cols).R m cols) (Nd E b rows cols).cs k j):=by
  intro k
  induction k with
  | zero=>intro _;exact Sz.zero hB
  | succ k ih=>
   intro a
   show Sz B (if j=_ then _ else _)
   split
   ·exact hs k cols (by omega) (by omega)
   ·exact ih (by omega)
 exact this _ (aE _)
def B7e(E b:Nat->Rat)(rows cols:Nat):fnd (fun i=>decide ((elP (L5 E b cols) rows (cols+1) cols).M i cols≠0)) (rows-(Nd E b rows cols).cs.length) (Nd E b rows cols).cs.length=rows↔Ms E b rows cols:=by
 have rel:=B4k (L5 E b cols) (rows:=rows) (cols:=cols+1) (c:=cols) (by omega)
 have o:(Nd E b rows cols).cs.length<=rows:=(Ee (mtx (L5 E b cols) (cols+1)) rows cols).2
 have n:∀ i,i<rows->(Nd E b rows cols).cs.length<=i->((elP (L5 E b cols) rows (cols+1) cols).M i cols=0↔(Nd E b rows cols).R i cols=0):=by
  intro i f g
  have a:=rel.val i cols f (by omega)
  rw [iN (by have:(elE (L5 E b cols) rows (cols+1) cols).cs.length<=i:=g;omega)] at a
  have k:=X8 rel.last
  have q:=rel.scale i f
  constructor
  ·intro e
   rw [e] at a
   have p:((0:Int):Rat)=0:=rfl
   rw [p] at a
   rcases Rat.mul_eq_zero.1 a.symm with l|l
   ·exact absurd l k
   ·rcases Rat.mul_eq_zero.1 l with m|m
    ·exact absurd m q
    ·exact m
  ·intro e
   have r:(elE (L5 E b cols) rows (cols+1) cols).R i cols=0:=e
   rw [r,aT,aT] at a
   exact_mod_cast a
 have d:=Th (fun i=>decide ((elP (L5 E b cols) rows (cols+1) cols).M i cols≠0)) (rows-(Nd E b rows cols).cs.length) (Nd E b rows cols).cs.length
 constructor
 ·intro e i f g
  have:=d i g (by omega)
  exact (n i f g).1 (by simpa using this)
 ·intro h
  refine B44 _ o (by omega) (fun j a k=>?_) (fun s=>by omega)
  simpa using (n j k a).2 (h j k a)
section
variable {h:aG} {K:VP} {A B:Option aL} {n n2 cap cap2 m rows cols nb:Nat} {E b:Nat->Rat}
def Ob{nq:Nat}(gl:Gl h)(ra:bK RQr h A (rows*cols) E)(hcap:rows*cols<=cap)(rb:bK RQr h B nb b)(hnb:rows<=nb)(hr:1<=rows)(hr2:rows<=1000)(hc:1<=cols)(hc2:cols<=1000)(hs:∀ i,i<rows*cols->Sz m (E i))(hsb:∀ i,i<rows->Sz m (b i))(hnq:∀ j,j<=cols->(elE (L5 E b cols) rows (cols+1) j).cs.length<=nq)(hm:2*(3^nq*bnd (cols+1) m)+1<=40000000)
 (hK1:Ms E b rows cols->∀ b' h',h.le h'->bK RQr h' (some ⟨b',0,none⟩) cols (A39 E b rows cols)->K (.tuple #[.slice (some ⟨b',0,none⟩) cols cols,.bool true]) h')
 (hK0:¬ Ms E b rows cols->∀ h',h.le h'->K (.tuple #[.slice none 0 0,.bool false]) h'):bC prog Ox #[.slice A (rows*cols) cap,I (rows:Int),I (cols:Int),.slice B nb cap2] h K:=by
 refine B1j _ _ _ _ _ _ _ _ ?_
 unfold B6h
 have a9:rows*cols<=1000*1000:=bI hr2 hc2
 have a4:rows*(cols+1)<=1000*1001:=bI hr2 (by omega)
 refine ⟨fun L hp=>∃ (k:Nat) (g o:aG) (xs:List QV) (A':Option aL) (c':Nat),k<=rows/\L=[.slice A' (k*(cols+1)) c',I (k:Int)]/\h.le g/\Sep hp g o/\OwnSl o K0 A' c' xs/\xs.length=k*(cols+1)/\Row RQr g xs (k*(cols+1)) (L5 E b cols),fun L _=>rows-(iAt L 1).toNat,
  ⟨0,h,Bn,[],none,0,by omega,by rw [bW];rfl,B4 _,Sep.refl h,OwnSl.nil,by simp,by rw [bW];exact Row.nil⟩,?_⟩
 rintro wA wn wc z hp ⟨k,g,o,xs,A',c',hk,eL,lg,s,ow,d,rr⟩
 obtain ⟨⟨rfl,rfl,rfl⟩,rfl⟩:=sI2 eL
 refine B6 (fun Q=>?_) (fun aw=>?_)
 ·have t:k<rows:=by omega
  have h2:(k+1)*cols<=rows*cols:=aD _ t
  have x:(k+1)*cols=k*cols+cols:=by rw [aM,aQ]
  have h4:(k+1)*(cols+1)=k*(cols+1)+cols+1:=by rw [aM,aQ];omega
  have h5:(k+1)*(cols+1)<=rows*(cols+1):=aD _ t
  have e0:B5 ((k:Int)+1)=((k+1:Nat):Int):=B7 (by omega) (by omega)
  have e1:B5 ((k:Int)*(cols:Int))=((k*cols:Nat):Int):=by rw [<- bF];exact Z6 (by omega)
  have e2:B5 (B5 ((k:Int)+1)*(cols:Int))=(((k+1)*cols:Nat):Int):=by rw [e0,<- bF];exact Z6 (by omega)
  rw [e1,e2,e0]
  refine ⟨⟨by omega,by omega⟩,⟨by omega,by simp only [aH];omega⟩,?_⟩
  simp only [aH]
  have e5:(k+1)*cols-k*cols=cols:=by omega
  rw [e5]
  have row:bK RQr h (J9 A cap (k*cols) 4) cols (fun j=>E (k*cols+j)):=ra.cut (c:=cap) (l:=k*cols) (k:=cols) (by omega) hcap
  obtain ⟨r,sy,p,qy⟩:=row
  refine OwnSl.app (ty:=V1) B2g s ow d.symm p.symm (by rintro rfl;simp at p;omega) (sy.mono (B0 lg s.le)) (by rw [d,p];omega) (by rw [d,p];omega) ?_
  intro A2 c2 a2 g2 o2 l2 s2 an _
  have V:=B0 lg l2
  obtain ⟨a6,u,ay,iu,d0,d1,d2,d3⟩:=(rb.mono K5 V).qat (i:=k) (by omega)
  refine ⟨_,_,_,rfl,a6,ay,by omega,by omega,_,_,_,_,_,_,_,_,B9 s2.le d0,B9 s2.le d1,B9 s2.le d2,B9 s2.le d3,?_⟩
  have a:(xs++r).length=k*(cols+1)+cols:=by rw [aC,d,p]
  rw [d]
  refine N4 (ty:=V1) B2g s2 an a.symm (y:=u) rfl (by decide) (by rw [a];omega) (by rw [a];omega) ?_
  intro A3 c3 a1 g3 o3 l3 s3 n _
  rw [a]
  have r1:Row RQr g2 (xs++r) (k*(cols+1)+cols) (L5 E b cols):=by
   refine Row.app d (rr.mono K5 l2) ((qy.mono K5 V).congr fun j hj=>?_)
   obtain ⟨f1,f2⟩:=dm1 (i:=k) (show j<cols+1 by omega)
   unfold L5
   rw [f1,f2,iP hj]
  refine ⟨⟨k+1,g3,o3,_,A3,c3,by omega,by rw [h4],B0 V l3,s3,n,by rw [aC,a,h4];rfl,?_⟩,?_⟩
  ·have rB:=Row.push (R:=RQr) (g:=g3) (xs:=xs++r) (f:=L5 E b cols) (by rw [a];exact r1.mono K5 l3) (w:=u) (by
    obtain ⟨f1,f2⟩:=dm1 (i:=k) (show cols<cols+1 by omega)
    show RQ g3 u (L5 E b cols (xs++r).length)
    unfold L5
    rw [a,f1,f2,iN (aS cols)]
    exact K5 _ _ _ _ l3 iu)
   rw [aC,a] at rB
   rw [h4]
   exact rB
  ·show rows-((k+1:Nat):Int).toNat<rows-(k:Int).toNat
   omega
 have t:k=rows:=by omega
 subst t
 have ew:B5 ((cols:Int)+1)=((cols+1:Nat):Int):=B7 (by omega) (by omega)
 rw [ew]
 have ai:=B0 lg s.le
 have rq:bK RQr hp wA (k*(cols+1)) (L5 E b cols):=⟨xs,ow.slF s.ole,d,rr.mono K5 s.le⟩
 have al:=A81 (cols:=cols) hs hsb
 have a3:=A0m nq (bnd (cols+1) m) (by unfold bnd;omega)
 refine A36 (nq:=nq) (E:=L5 E b cols) (cc:=cols) (m:=m) (gl.mono ai) rq (by have:=ow.1;omega) (by omega) (by omega) (by omega) (by omega) (by omega) al (fun j hj=>by rw [C27 _ (by omega)];exact hnq j hj) (by omega) ?_
 intro T h2 D l2 e1 e2
 refine ⟨_,rfl,FCall.mono D ?_⟩
 rintro r3 x ⟨g3,o3,A3,az,w,l3,O,n,aq,ak,rfl⟩
 refine ⟨_,_,_,_,_,_,_,_,rfl,?_⟩
 have W:=C4j (E:=L5 E b cols) (rows:=k) (cols:=cols+1) (c:=cols) al (by omega)
 have ap:3^(elP (L5 E b cols) k (cols+1) cols).cs.length*bnd (cols+1) m<=3^nq*bnd (cols+1) m:=aD _ (cU (by decide) (by rw [C27 _ (by omega)];exact hnq cols (aE _)))
 have ax:=C26 (L5 E b cols) k (cols+1) cols
 have F:∀ i,i<(Nd E b k cols).cs.length->i<k->cH ((elP (L5 E b cols) k (cols+1) cols).M i cols) (elP (L5 E b cols) k (cols+1) cols).last=(Nd E b k cols).R i cols:=fun i h1 hi=>C4l (L5 E b cols) (by omega) hi (by omega) (.inl h1)
 have aa:Asc (Nd E b k cols).cs cols:=Te k ⟨_,[],1⟩ rfl cols
 have C:(Nd E b k cols).cs.length<=cols/\(Nd E b k cols).cs.length<=k:=Ee _ k cols
 have e:=B7e E b k cols
 have eX:A39 E b k cols=B37 (fun m=>(Nd E b k cols).R m cols) (Nd E b k cols).cs (Nd E b k cols).cs.length:=(A0k _ _).symm
 rw [C27 _ (by omega)] at n ⊢
 change (elE (L5 E b cols) k (cols+1) cols).cs.length<=cols/\_ at C
 rw [eX] at hK1
 clear eX
 unfold Nd at hK1 e F aa C
 generalize elP (L5 E b cols) k (cols+1) cols=st at *
 generalize (elE (L5 E b cols) k (cols+1) cols).cs=cs at *
 generalize (elE (L5 E b cols) k (cols+1) cols).R=R at *
 have ac:=W.M
 have ag:=W.last
 clear W
 generalize 3^st.cs.length*bnd (cols+1) m=bb at ac ag ap
 have sp:=n.slF O.sep.ole
 have H:h.le x:=B0 ai (B0 l3 O.sep.le)
 have iw:ZIr x w st.last:=Kw _ _ _ _ O.sep.le ak
 have ae:T.rows=k:=e1
 refine A49 O (start:=cs.length) (col:=cols) (by omega) (by omega) (fun Q=>⟨_,_,rfl,hK0 (fun hx=>by rw [ae] at Q;have:=e.2 hx;omega) x H⟩) (fun ah=>⟨_,_,rfl,?_⟩)
 have av:=hK1 (e.1 (by rw [ae] at ah;exact ah))
 have G:∀ J,x.le J->∃ gT,Tab J gT o3 T st.M st.S:=fun J l=>by
  obtain ⟨gT,l',s'⟩:=O.sep.after l
  exact ⟨gT,O.next s' l'⟩
 clear O n aq ak D hK1 hK0
 refine K6 B2g (zx:=Ay) rfl (by omega) (by omega) (by omega) (by omega) ?_
 intro b2 au
 simp only [aH]
 refine ⟨_,_,_,rfl,?_⟩
 have s5:=(Sep.refl x).new au (.cells ((aP cols Ay).flatMap enc).toArray K0)
 have r0:Row RQr x (aP cols Ay) cols (B37 (fun m=>R m cols) cs 0):=fun i hi=>⟨Ay,by rw [cP,iP hi],RQ.zero⟩
 refine ⟨fun L q=>∃ (i:Nat) (J o':aG) (r:List QV),i<=cs.length/\L=[I (i:Int)]/\x.le J/\Sep q J o'/\RowX o' b2 r/\r.length=cols/\Row RQr J r cols (B37 (fun m=>R m cols) cs i),fun L _=>cs.length-(iAt L 0).toNat,⟨0,x,_,_,by omega,rfl,B4 _,s5,RowX.mk,aK,r0⟩,?_⟩
 rintro z q ⟨i,g6,o6,r,hi,eL,X,Z,ad,hy,aj⟩
 obtain rfl:=sI1 eL
 refine B6 (fun Q=>?_) (fun aw=>?_)
 ·have N:i<cs.length:=by omega
  obtain ⟨u,eu,ao⟩:=B3d (sp.mono (B0 X Z.le)) N
  have a8:=B40 aa N
  obtain ⟨gT,tT⟩:=G g6 X
  refine ⟨u,eu,by omega,by omega,_,ao,?_⟩
  refine Z.call (Gf tT (i:=i) (by omega) ?_)
  intro h7 s7
  obtain ⟨wv,zv,c0,c1⟩:=tT.at (i:=i) (j:=cols) (by omega) (by omega)
  refine ⟨_,_,_,rfl,Z.le_le s7 (B4 _),_,rfl,by omega,by omega,_,_,_,_,B9 s7.le c0,B9 s7.le c1,?_⟩
  refine s7.call (Bv (gl.mono (B0 H X)).tz (Kw _ _ _ _ tT.sep.le zv) (Kw _ _ _ _ X iw) (ac _ _ (by omega) (by omega)) ag (by omega) ?_)
  intro w9 g9 l9 i9 h9 s9
  rw [F i N (by omega)] at i9
  refine ⟨_,_,_,_,_,_,_,_,rfl,s7.le_le s9 l9,_,rfl,by omega,by omega,?_⟩
  refine S4 Tc (y:=w9) rfl s9 ad (i:=cs.getD i 0) (by omega) ?_
  intro a5 ar a7 a0 am af
  rw [wiS i (by omega)]
  exact ⟨⟨i+1,g9,ar,_,by omega,rfl,B0 X l9,am,af,by rw [bO];exact hy,(aj.mono K5 l9).upd (by omega) i9⟩,by simp only [Ec];omega⟩
 ·have:i=cs.length:=by omega
  subst this
  exact av b2 q (B0 H (B0 X Z.le)) ⟨r,ad.rowB.slF Z.ole,hy,aj.mono K5 Z.le⟩
end
section
variable {h:aG} {K:VP} {A:Option aL} {n cap m w:Nat} {r c:Int} {ls:Nat->List UInt8} {R:Nat->Nat->Rat}
def A6u(hn:n<=10000)(hw:w<=10000)
 (hK:∀ h' g' o' bo rb,h.le g'->Mt h' g' o' bo rb n w (fun _ _=>0)->K (.slice (some ⟨bo,0,none⟩) n n) h'):bC prog A1l #[I (n:Int),I (w:Int)] h K:=by
 refine B6o _ _ ?_
 unfold C0z
 refine K6 C68 (zx:=(⟨none,0,0⟩:HV)) rfl (by omega) (by omega) (by omega) (by omega) ?_
 intro bo B
 simp only [aH]
 refine ⟨_,_,_,rfl,fun L E=>∃ (k:Nat) (g o:aG) (l:List HV) (rb:Nat->Nat),k<=n/\L=[I (k:Int)]/\h.le g/\Sep E g o/\RowX o bo l/\l.length=n/\(∀ i,i<k->l[i]? = some ⟨some ⟨rb i,0,none⟩,w,w⟩)/\(∀ i,i<k->rb i≠bo)/\(∀ i j,i<k->j<k->rb i=rb j->i=j)/\(∀ i,i<k->RowX o (rb i) (aP w Ay)),fun L _=>n-(iAt L 0).toNat,
  ⟨0,h,Bn.put bo _,aP n ⟨none,0,0⟩,fun _=>0,by omega,rfl,B4 _,Z2 B,RowX.mk,aK,fun i a=>by omega,fun i a=>by omega,fun i j a=>by omega,fun i a=>by omega⟩,?_⟩
 rintro z E ⟨k,g,o,l,rb,X,S,O,s,t,N,H,D,M,u⟩
 obtain rfl:=sI1 S
 refine B6 (fun T=>?_) (fun R=>?_)
 ·have Q:k<n:=by omega
  refine K6 A09 (zx:=Ay) rfl (by omega) (by omega) (by omega) (by omega) ?_
  intro b d
  simp only [aH]
  have p:∀ q x,o q=some x->q≠b:=by
   rintro q x e rfl
   rw [s.own q x e] at d;cases d
  have f:bo≠b:=by obtain ⟨e,F⟩:=t;exact p _ _ F
  have c:∀ i,i<k->rb i≠b:=fun i a=>by obtain ⟨e,F⟩:=u i a;exact p _ _ F
  refine ⟨_,_,_,rfl,_,rfl,by omega,by omega,?_⟩
  refine S4 A89 (y:=(⟨some ⟨b,0,none⟩,w,w⟩:HV)) rfl (s.new d _) (t.other f _) (i:=k) (by omega) ?_
  intro W J Z m V C
  rw [wiS k (by omega)]
  refine ⟨⟨k+1,g,J,_,fun i=>if i=k then b else rb i,by omega,rfl,O,V,C,by rw [bO];exact N,fun i a=>?_,fun i a=>?_,fun i j a G e=>?_,fun i a=>?_⟩,by simp only [Ec];omega⟩
  ·show (l.set k _)[i]? = some (⟨some ⟨if i=k then b else rb i,0,none⟩,w,w⟩:HV)
   by_cases e:i=k
   ·subst e
    rw [iP rfl,bZ (by omega)]
   ·rw [iN e,bX (fun x=>e x.symm)]
    exact H i (by omega)
  ·show (if i=k then b else rb i)≠bo
   by_cases e:i=k
   ·rw [iP e];exact f.symm
   ·rw [iN e];exact D i (by omega)
  ·change (if i=k then b else rb i)=(if j=k then b else rb j) at e
   by_cases A:i=k
   ·by_cases r:j=k
    ·omega
    ·rw [iP A,iN r] at e
     exact absurd e.symm (c j (by omega))
   ·by_cases r:j=k
    ·rw [iN A,iP r] at e
     exact absurd e (c i (by omega))
    ·rw [iN A,iN r] at e
     exact M i j (by omega) (by omega) e
  ·show RowX J (if i=k then b else rb i) _
   by_cases e:i=k
   ·rw [iP e,m]
    exact RowX.mk.other f.symm _
   ·rw [iN e,m]
    exact ((u i (by omega)).other (c i (by omega)) _).other (D i (by omega)) _
 ·have:k=n:=by omega
  subst this
  refine hK E g o bo rb O ⟨s,⟨l,t.rowB,N,fun i a=>⟨w,H i a,aE _⟩⟩,D,M,fun i a=>⟨_,(u i a).rowB,aK,fun j G=>⟨Ay,by rw [cP,iP G],NQ.zero⟩⟩⟩
def Ks{α:Type}[E:Enc α]{o:aG}{b:Nat}{e:cF}{c:Nat}{zx:α}:OwnSl (o.put b (.cells ((aP c zx).flatMap enc).toArray e)) e (some ⟨b,0,none⟩) c ([]:List α):=
 ⟨bL _,.inr ⟨b,_,rfl,C2 _ _ _,by rw [K7,aK],by simp⟩⟩
def A3s{rows cols:Nat}(rv':bK SSr h A (rows*cols) ls)(hr:rows<=10000)(hc:cols<=10000)
 (hK:∀ A' c' h' g' o' xs,h.le g'->Sep h' g' o'->OwnSl o' J5 A' c' xs->xs.length=rows*cols->Row SSr g' xs (rows*cols) (fun k=>ls (k%rows*cols+k/rows))->K (.slice A' (rows*cols) c') h'):bC prog Gt #[.slice A (rows*cols) cap,I (rows:Int),I (cols:Int)] h K:=by
 refine Xw _ _ _ _ _ ?_
 unfold Ww
 have ad:rows*cols<=10000*10000:=bI hr hc
 refine K6 Fz (zx:=([]:List UInt8)) rfl (by omega) (by omega) (by omega) (by omega) ?_
 intro b X
 simp only [aH]
 refine ⟨_,_,_,rfl,fun L u=>∃ (j:Nat) (g o:aG) (xs:List (List UInt8)) (A':Option aL) (c':Nat),j<=cols/\L=[.slice A' (j*rows) c',I (j:Int)]/\h.le g/\Sep u g o/\OwnSl o J5 A' c' xs/\xs.length=j*rows/\Row SSr g xs (j*rows) (fun k=>ls (k%rows*cols+k/rows)),fun L _=>cols-(iAt L 1).toNat,
  ⟨0,h,Bn.put b _,[],some ⟨b,0,none⟩,rows*cols,by omega,by rw [bW];rfl,B4 _,Z2 X,Ks,by simp,by rw [bW];exact Row.nil⟩,?_⟩
 rintro M rn rc z u ⟨j,g,o,xs,A',c',hj,E,T,s,Q,d,G⟩
 obtain ⟨⟨rfl,rfl,rfl⟩,rfl⟩:=sI2 E
 refine B6 (fun aa=>?_) (fun W=>?_)
 ·have t:j<cols:=by omega
  have q:(j+1)*rows=j*rows+rows:=by rw [aM,aQ]
  have D:(j+1)*rows<=cols*rows:=aD _ t
  rw [aO cols rows] at D
  refine ⟨fun L u=>∃ (i:Nat) (g o:aG) (xs:List (List UInt8)) (A':Option aL) (c':Nat),i<=rows/\L=[.slice A' (j*rows+i) c',I (i:Int)]/\h.le g/\Sep u g o/\OwnSl o J5 A' c' xs/\xs.length=j*rows+i/\Row SSr g xs (j*rows+i) (fun k=>ls (k%rows*cols+k/rows)),fun L _=>rows-(iAt L 1).toNat,
   ⟨0,g,o,xs,M,rc,by omega,rfl,T,s,Q,d,G⟩,?_⟩
  rintro V qn qc z ac ⟨i,g2,o2,x,A2,c2,hi,E,e,B,p,c,m⟩
  obtain ⟨⟨rfl,rfl,rfl⟩,rfl⟩:=sI2 E
  refine B6 (fun H=>?_) (fun O=>?_)
  ·have l:i<rows:=by omega
   have r:=Bp l t
   have ew:B5 (B5 ((i:Int)*(cols:Int))+(j:Int))=((i*cols+j:Nat):Int):=by
    rw [<- bF,Z6 (by omega)]
    exact Z6 (n:=i*cols+j) (by omega)
   rw [ew]
   obtain ⟨a,Z,F⟩:=(rv'.mono I9 (B0 e B.le)).sat r
   refine ⟨a,Z,by omega,by omega,_,F,?_⟩
   refine N4 (ty:=Fx) Fz B p c.symm (y:=ls (i*cols+j)) rfl (by decide) (by rw [c];omega) (by rw [c];omega) ?_
   intro A3 c3 h3 S o3 N s3 C _
   rw [c,wiS i (by omega)]
   refine ⟨⟨i+1,S,o3,_,A3,c3,by omega,by rw [dU],B0 e N,s3,C,by rw [aC,c];rfl,?_⟩,?_⟩
   ·have J:=Row.push (R:=SSr) (g:=S) (xs:=x) (f:=fun k=>ls (k%rows*cols+k/rows)) (by rw [c];exact m.mono I9 N) (w:=ls (i*cols+j)) (by
     show ls (i*cols+j)=ls (x.length%rows*cols+x.length/rows)
     rw [c,cR (j*rows) i,bN,cK l,cD _ _ (by omega),bM l,aN])
    rw [aC,c] at J
    exact J
   ·show rows-((i+1:Nat):Int).toNat<rows-(i:Int).toNat
    omega
  ·have:i=rows:=by omega
   subst this
   rw [wiS j (by omega),<- q]
   rw [<- q] at c m
   refine ⟨⟨j+1,g2,o2,x,V,qc,by omega,rfl,e,B,p,c,m⟩,?_⟩
   show cols-((j+1:Nat):Int).toNat<cols-(j:Int).toNat
   omega
 ·have:j=cols:=by omega
  subst this
  rw [aO j rows] at d G ⊢
  exact hK M rc u g o xs T s Q d G
def OwnS(h h':aG)(A:Option aL)(c n:Nat)(f:Nat->List UInt8):Prop:=∃ g o xs,h.le g/\Sep h' g o/\OwnSl o J5 A c xs/\xs.length=n/\Row SSr g xs n f
def Uu(gl:Gl h)(rv':bK SSr h A n ls)(hn:n<=1000000)(hl:LL n ls)
 (hK1:∀ rows cols,MOk r c n ls rows cols->∀ h' A' c',OwnS h h' A' c' n (fun k=>ls (k%rows*cols+k/rows))->K (.tuple #[Ys c r A' n c',I 0]) h')
 (hK0:¬ Mx r c n ls->∀ h',h.le h'->K (.tuple #[Ys 0 0 none 0 0,I 1]) h'):bC prog Iv #[Ys r c A n cap] h K:=by
 refine A2f _ _ _ _ _ ?_
 unfold Zu
 refine Us gl rv' hn hl (fun f=>⟨_,rfl,?_⟩) (fun b=>⟨_,rfl,hK0 b h (B4 _)⟩)
 obtain ⟨rows,cols,mk⟩:=f
 have g:=hK1 rows cols mk
 obtain ⟨rfl,rfl,_,_,_,_,rfl,_⟩:=id mk
 have:=mk.r2;have:=mk.c2
 refine A3s rv' (by omega) (by omega) ?_
 intro A2 c2 q o l p d e j a m
 exact ⟨_,_,_,rfl,B0 d e.le,g q A2 c2 ⟨o,l,p,d,e,j,a,m⟩⟩
end
def Br.nt{X Y:Prop}(y:Y):Br (!true) X Y:=y
def Sx{X Y:Prop}(x:X):Br (!false) X Y:=x
structure MOut where
 r:Int
 c:Int
 n:Nat
 f:Nat->List UInt8
 e:Int
def noM(e:Int):MOut:=⟨0,0,0,fun _=>[],e⟩
section
variable {h:aG} {K:VP} {A B:Option aL} {n n2 cap cap2 m w:Nat} {r c r2 c2:Int} {la lb:Nat->List UInt8}
end
structure VV where
 A:Option aL
 n:Nat
 c:Nat
 s:Bool
 B:Option aL
 bn:Nat
 bc:Nat
abbrev VV.v(w:VV):cG:=.agg #[.slice w.A w.n w.c,.bool w.s,.slice w.B w.bn w.bc]
instance:Enc VV:=⟨⟨fun w=>[.slice w.A w.n w.c,.bool w.s,.slice w.B w.bn w.bc],3,fun _=>rfl,fun w v hv=>by
 simp only [List.mem_cons,List.not_mem_nil,or_false] at hv
 rcases hv with rfl|rfl|rfl<;>rfl⟩⟩
def VQr(w:Nat):aG->VV->(Nat->Rat)->Prop:=fun h v f=>v.n=w/\ZI h v.s v.B v.bn v.bc (Bo f w:Int)/\bK ZIr h v.A w (fun j=>scl (f j) (Bo f w:Int))
def A3v(w:Nat):Mon (VQr w):=fun _ _ _ _ l i=>⟨i.1,i.2.1.mono l,i.2.2.mono Kw l⟩
section
variable {h:aG} {K:VP} {A B:Option aL} {n cap m w:Nat} {f f2:Nat->Rat}
def Ur(gl:Gl h)(r:bK RQr h A n f)(hn:n<=10000)(hs:∀ i,i<n->Sz m (f i))(hm:1+n*m+m<=6400000000)
 (hK:∀ v h',h.le h'->VQr n h' v f->K v.v h'):bC prog Do #[.slice A n cap] h K:=by
 refine A2g _ _ _ ?_
 unfold Zw
 have hd:=Lu (f:=f) n hs
 refine ⟨?_,?_⟩
 ·refine K6 tZs (zx:=(⟨false,none,0,0⟩:IV)) rfl (by omega) (by omega) (by omega) (by omega) ?_
  intro b N
  simp only [aH]
  have F:=(Sep.refl h).new N (.cells ((aP n (⟨false,none,0,0⟩:IV)).flatMap enc).toArray Fu)
  refine ⟨_,_,_,rfl,F.le,F.call (Ef gl r (by omega) hs hm ?_)⟩
  intro H Bd T J x p id h1 D
  refine ⟨_,_,_,_,rfl,F.le_le D p,?_⟩
  refine ⟨fun L t=>∃ (k:Nat) (g o:aG) (d:List IV),k<=n/\L=[I (k:Int)]/\x.le g/\Sep t g o/\RowX o b d/\d.length=n/\Row ZIr g d k (fun j=>scl (f j) (Bo f n:Int)),fun L _=>n-(iAt L 0).toNat,⟨0,x,_,aP n ⟨false,none,0,0⟩,by omega,rfl,B4 _,D,RowX.mk,aK,Row.nil⟩,?_⟩
  rintro z t ⟨k,g,o,d,hk,Q,l,s,C,B,E⟩
  obtain rfl:=sI1 Q
  refine B6 (fun S=>?_) (fun M=>?_)
  ·have c:k<n:=by omega
   obtain ⟨a,w,R,iw,c0,c1,c2,X⟩:=(r.mono K5 (B0 p l)).qat c
   refine ⟨a,R,by omega,by omega,_,_,_,_,_,_,_,_,B9 s.le c0,B9 s.le c1,B9 s.le c2,B9 s.le X,?_⟩
   refine s.call (Ln (m:=1+n*m+m) iw (id.mono l) ((hs k c).mono (by omega)) (hd.mono (by omega)) hm ?_)
   intro G A2 n2 c2 V q W h2 e
   refine ⟨_,_,_,_,rfl,s.le_le e q,_,rfl,by omega,by omega,?_⟩
   refine S4 A08 (y:=(⟨G,A2,n2,c2⟩:IV)) rfl e C (i:=k) (by omega) ?_
   intro h7 Z x7 eo O u
   rw [wiS k (by omega)]
   exact ⟨⟨k+1,V,Z,_,by omega,rfl,B0 l q,O,u,by rw [bO];exact B,(E.mono Kw q).set (by omega) W⟩,by simp only [Ec];omega⟩
  ·have:k=n:=by omega
   subst this
   exact hK ⟨some ⟨b,0,none⟩,k,k,H,Bd,T,J⟩ t (B0 p (B0 l s.le)) ⟨rfl,id.mono (B0 l s.le),d,C.rowB.slF s.ole,B,E.mono Kw s.le⟩
 ·refine Ef gl r (by omega) hs hm ?_
  intro H Bd T J x p id
  refine ⟨_,_,_,_,rfl,p,K6 tZs (zx:=(⟨false,none,0,0⟩:IV)) rfl (by omega) (by omega) (by omega) (by omega) ?_⟩
  intro b N
  simp only [aH]
  have D:=(Sep.refl x).new N (.cells ((aP n (⟨false,none,0,0⟩:IV)).flatMap enc).toArray Fu)
  refine ⟨_,_,_,rfl,D.le,?_⟩
  refine ⟨fun L t=>∃ (k:Nat) (g o:aG) (d:List IV),k<=n/\L=[I (k:Int)]/\x.le g/\Sep t g o/\RowX o b d/\d.length=n/\Row ZIr g d k (fun j=>scl (f j) (Bo f n:Int)),fun L _=>n-(iAt L 0).toNat,⟨0,x,_,aP n ⟨false,none,0,0⟩,by omega,rfl,B4 _,D,RowX.mk,aK,Row.nil⟩,?_⟩
  rintro z t ⟨k,g,o,d,hk,Q,l,s,C,B,E⟩
  obtain rfl:=sI1 Q
  refine B6 (fun S=>?_) (fun M=>?_)
  ·have c:k<n:=by omega
   obtain ⟨a,w,R,iw,c0,c1,c2,X⟩:=(r.mono K5 (B0 p l)).qat c
   refine ⟨a,R,by omega,by omega,_,_,_,_,_,_,_,_,B9 s.le c0,B9 s.le c1,B9 s.le c2,B9 s.le X,?_⟩
   refine s.call (Ln (m:=1+n*m+m) iw (id.mono l) ((hs k c).mono (by omega)) (hd.mono (by omega)) hm ?_)
   intro G A2 n2 c2 V q W h2 e
   refine ⟨_,_,_,_,rfl,s.le_le e q,_,rfl,by omega,by omega,?_⟩
   refine S4 A08 (y:=(⟨G,A2,n2,c2⟩:IV)) rfl e C (i:=k) (by omega) ?_
   intro h7 Z x7 eo O u
   rw [wiS k (by omega)]
   exact ⟨⟨k+1,V,Z,_,by omega,rfl,B0 l q,O,u,by rw [bO];exact B,(E.mono Kw q).set (by omega) W⟩,by simp only [Ec];omega⟩
  ·have:k=n:=by omega
   subst this
   exact hK ⟨some ⟨b,0,none⟩,k,k,H,Bd,T,J⟩ t (B0 p (B0 l s.le)) ⟨rfl,id.mono (B0 l s.le),d,C.rowB.slF s.ole,B,E.mono Kw s.le⟩
def smZ(x y:Nat->Int):Nat->Int
 | 0=>0
 | k+1=>smZ x y k+x k*y k
def smA(x y:Nat->Int):Nat->Int
 | 0=>0
 | k+1=>smA x y k+(x k*y k).natAbs
def B9q{x y:Nat->Int}{m w:Nat}(hx:∀ j,j<w->ZB m (x j))(hy:∀ j,j<w->ZB m (y j)):∀ k,k<=w->smA x y k<=k*2^(2*m):=by
 intro k
 induction k with
 | zero=>intro _;simp [smA]
 | succ k ih=>
  intro b
  have c:=ih (by omega)
  have d:=A6i (hx k (by omega)) (hy k (by omega))
  have a:((k+1:Nat):Int)*2^(2*m)=(k:Int)*2^(2*m)+2^(2*m):=by rw [Int.natCast_add,Int.add_mul];simp
  show smA x y k+((x k*y k).natAbs:Int)<=_
  rw [a]
  omega
def C1d(x y:Nat->Int):∀ k,((smZ x y k).natAbs:Int)<=smA x y k:=by
 intro k
 induction k with
 | zero=>exact Int.le_refl _
 | succ k ih=>
  show ((smZ x y k+x k*y k).natAbs:Int)<=smA x y k+((x k*y k).natAbs:Int)
  omega
def C3z{x y:Nat->Int}{m w:Nat}(hx:∀ j,j<w->ZB m (x j))(hy:∀ j,j<w->ZB m (y j))(hw:w<=10000):ZB (2*m+14) (smZ x y w):=by
 have b:=B9q hx hy w (aE _)
 have c:=C1d x y w
 have e:(2:Int)^(2*m)=((2^(2*m):Nat):Int):=by simp
 rw [e,<- bF] at b
 have d:w*2^(2*m)<=10000*2^(2*m):=aD _ hw
 have a:2^(2*m+14)=2^(2*m)*16384:=by rw [Nat.pow_add]
 have f:0<2^(2*m):=dC (by decide)
 unfold ZB
 rw [a]
 omega
def C40{p q:Nat->Rat}{x y:Nat->Int}{d e:Int}{w:Nat}(hx:∀ j,j<w->(x j:Rat)=p j*d)(hy:∀ j,j<w->(y j:Rat)=q j*e):∀ k,k<=w->(smZ x y k:Rat)=sm k (fun j=>p j*q j)*((d*e:Int):Rat):=by
 intro k
 induction k with
 | zero=>intro _;show ((0:Int):Rat)=0*_;rw [aZ];rfl
 | succ k ih=>
  intro a
  show ((smZ x y k+x k*y k:Int):Rat)=(sm k (fun j=>p j*q j)+p k*q k)*((d*e:Int):Rat)
  rw [Rat.intCast_add,ih (by omega),bJ d e,bJ (x k) (y k),hx k (by omega),hy k (by omega)]
  grind
def Yd{v u:VV}(gl:Gl h)(iv:VQr w h v f)(iu:VQr w h u f2)(hw:w<=10000)(hs:∀ i,i<w->Sz m (f i))(hs2:∀ i,i<w->Sz m (f2 i))(hm1:1<=m)(hm:2*(1+w*m+m)+14<=100000000)
 (hK:∀ q h',h.le h'->RQ h' q (sm w (fun j=>f j*f2 j))->K q.v h'):bC prog Tn #[v.v,u.v] h K:=by
 refine B6f _ _ _ _ _ _ _ _ _ _ _ _ _ _ ?_
 unfold C0t
 obtain ⟨X,x,D⟩:=iv
 obtain ⟨aa,C,E⟩:=iu
 have d:=Lu (f:=f) w hs
 have l:=Lu (f:=f2) w hs2
 have r:∀ j,j<w->ZB (1+w*m+m) (scl (f j) (Bo f w:Int)):=fun j c=>(B2s (hs j c) d).mono (by omega)
 have s:∀ j,j<w->ZB (1+w*m+m) (scl (f2 j) (Bo f2 w:Int)):=fun j c=>(B2s (hs2 j c) l).mono (by omega)
 refine Dv A8a ?_
 intro bs B
 have Z0:SumS (h.put bs (.cells #[.slice none 0 0,.slice none 0 0] Lk)) h bs Lk 200000001 0 0:=SumS.zero B
 refine ⟨_,rfl,fun L O=>∃ (k:Nat) (g:aG),k<=w/\L=[I (k:Int)]/\h.le g/\SumS O g bs Lk 200000001 (smA (fun j=>scl (f j) (Bo f w:Int)) (fun j=>scl (f2 j) (Bo f2 w:Int)) k) (smZ (fun j=>scl (f j) (Bo f w:Int)) (fun j=>scl (f2 j) (Bo f2 w:Int)) k),fun L _=>w-(iAt L 0).toNat,⟨0,h,by omega,rfl,B4 _,Z0⟩,?_⟩
 rintro z O ⟨k,g,hk,eL,p,Z⟩
 obtain rfl:=sI1 eL
 refine B6 (fun ac=>?_) (fun W=>?_)
 ·have b:k<w:=by omega
  obtain ⟨a,x1,ea,G,c0,c1⟩:=(D.mono Kw p).zat b
  obtain ⟨a2,T,A,H,d0,V⟩:=(E.mono Kw p).zat b
  refine ⟨a,ea,by omega,by omega,_,_,_,_,B9 Z.le c0,B9 Z.le c1,a2,A,by omega,by omega,_,_,_,_,B9 Z.le d0,B9 Z.le V,?_⟩
  have lx:x1.n<=100000000:=ZI.len G (r k b) (by omega)
  have ly:T.n<=100000000:=ZI.len H (s k b) (by omega)
  have hA:=B9q r s (k+1) b
  have N:=B3a (m:=1+w*m+m) (k:=k+1) (by omega) (by omega)
  refine Bc Z G H (by omega) (by omega) (N1:=1+w*m+m) (by show smA _ _ (k+1)<_;omega) (by omega) ?_
  intro h3 g3 l3 Z3
  rw [wiS k (by omega)]
  exact ⟨rfl,⟨k+1,g3,by omega,rfl,B0 p l3,Z3⟩,by simp only [Ec];omega⟩
 ·have:k=w:=by omega
  subst this
  refine Np Z (by omega) ?_
  intro sv Av nv cv h5 M z5
  have e:=B0 p (B0 Z.le M)
  refine ⟨_,_,_,_,rfl,M,?_⟩
  refine L4 (m:=1+k*m+m) (x.mono e) (C.mono e) (d.mono (by omega)) (l.mono (by omega)) (by omega) ?_
  intro s6 A6 n6 c6 h6 t z6
  refine ⟨_,_,_,_,rfl,t,?_⟩
  have o:=B0 e t
  have Q:∀ j,j<k->(scl (f j) (Bo f k:Int):Rat)=f j*((Bo f k:Int):Rat):=fun j c=>B2t (Int.natCast_dvd_natCast.2 (A0t f k j c))
  have e2:∀ j,j<k->(scl (f2 j) (Bo f2 k:Int):Rat)=f2 j*((Bo f2 k:Int):Rat):=fun j c=>B2t (Int.natCast_dvd_natCast.2 (A0t f2 k j c))
  have S:=C40 Q e2 k (aE _)
  have R:=A0s f k
  have ad:=A0s f2 k
  have y:((Bo f k:Int)*(Bo f2 k:Int))≠0:=Int.mul_ne_zero (by omega) (by omega)
  have zb:ZB (2*(1+k*m+m)+14) (smZ (fun j=>scl (f j) (Bo f k:Int)) (fun j=>scl (f2 j) (Bo f2 k:Int)) k):=C3z r s (by omega)
  refine Bv (m:=2*(1+k*m+m)+14) (gl.mono o).tz (z5.mono t) z6 zb ((d.mul l).mono (by omega)) (by omega) ?_
  intro q h7 J F
  refine ⟨_,_,_,_,_,_,_,_,rfl,J,hK q h7 (B0 o J) ?_⟩
  have:cH (smZ (fun j=>scl (f j) (Bo f k:Int)) (fun j=>scl (f2 j) (Bo f2 k:Int)) k) ((Bo f k:Int)*(Bo f2 k:Int))=sm k (fun j=>f j*f2 j):=by
   rw [cQ,S]
   exact Rat.mul_div_cancel (X8 y)
  rw [this] at F
  exact F
end
def B7f:prog.cellsOf Nl=1/\(prog.info? Nl).isSome=true:=by constructor<;>kernel_rfl
section
variable {h:aG} {K:VP} {A:Option aL} {cap m rows cols:Nat} {E:Nat->Rat}
def Ia(gl:Gl h)(r:bK RQr h A (rows*cols) E)(hcap:rows*cols<=cap)(hr2:rows<=10000)(hc:1<=cols)(hc2:cols<=10000)(hs:∀ i,i<rows*cols->Sz m (E i))(hm:1+cols*m+m<=6400000000)
 (hK:∀ A' c' h',h.le h'->bK (VQr cols) h' A' rows (A3h E cols)->K (.slice A' rows c') h'):bC prog Fd #[.slice A (rows*cols) cap,I (cols:Int)] h K:=by
 refine A7t _ _ _ _ ?_
 unfold A9r
 have ad:rows*cols<=100000000:=by
  have:rows*cols<=10000*10000:=bI hr2 hc2
  omega
 refine Dv (z:=.slice none 0 0) (by kernel_rfl) ?_
 intro q H
 refine ⟨_,rfl,?_⟩
 have X:=(Sep.refl h).new H (.cells #[.slice none 0 0] Nl)
 refine X.call (Yz hc ?_)
 intro v N O ic aa s3
 have bound:∀ k,k<rows->∀ j,j<cols->Sz m (E (k*cols+j)):=fun k hk j V=>hs _ (Bp hk V)
 refine ⟨_,rfl,Uk ic hc (by omega) hcap (fun k R=>∃ (s p:aG) (n:List VV) (A1:Option aL) (c1:Nat),N.le s/\Sep R s p/\(∃ e,p q=some (.cells #[.slice A1 k c1] e))/\OwnSl p Yc A1 c1 n/\A1≠some ⟨q,0,none⟩/\n.length=k/\Row (VQr cols) s n k (A3h E cols)) ?_ ?_ ?_ ?_⟩
 ·exact ⟨N,_,[],none,0,B4 _,s3,⟨_,C2 _ _ _⟩,OwnSl.nil,by simp,rfl,Row.nil⟩
 ·rintro k R ⟨s,p,n,A1,c1,lg,s1,_⟩
  exact B0 lg s1.le
 ·rintro k f x ⟨s,p,n,A1,c1,d,g,⟨e,a⟩,J,T,o,L⟩
  have bk:=bound k x
  have ac:(k+1)*cols<=rows*cols:=aD _ x
  have Z:(k+1)*cols=k*cols+cols:=by rw [aM,aQ]
  have u:=B0 O d
  have B:bK RQr h A ((k+1)*cols) E:=by
   have:=r.cut (c:=cap) (l:=0) (k:=(k+1)*cols) (by omega) hcap
   rw [H9] at this
   exact this.congr fun i _=>by rw [aN]
  have t:bK RQr h (J9 A ((k+1)*cols) (k*cols) 4) cols (A3h E cols k):=B.cut (c:=(k+1)*cols) (l:=k*cols) (k:=cols) (by omega) (aE _)
  have cp:f.cell? ⟨q,0,none⟩=some (.slice A1 k c1):=g.cell (by unfold Heap.cell?;simp only [a];rfl)
  refine ⟨_,_,_,rfl,_,_,_,cp,g.call (Ur (gl.mono u) (t.mono K5 u) (by omega) bk hm ?_)⟩
  intro w g2 G iw F S
  refine ⟨_,_,_,_,_,_,_,rfl,g.le_le S G,?_⟩
  subst o
  refine OwnSl.push (ty:=Nl) C67 S J (y:=w) (v:=w.v) rfl (by decide) (by omega) (by omega) (K1:=fun hq=>F.le hq) (fun _ l=>l) ?_
  intro A3 c3 h6 W o6 C s6 M kp
  have D:=kp q _ a T
  show wpH _ (aX _ (.pointer (some (aF ⟨q,0,none⟩ 0))) _) _ _
  refine A26 B7f rfl rfl s6 D.1 (by simp) ?_
  intro h7 o7 s7 Q
  exact ⟨W,o7,n++[w],A3,c3,B0 d (B0 G C),s7,⟨e,by rw [Q,C2];simp⟩,M.keep fun b y hb he=>by rw [Q,B8 _ _ (fun e=>D.2 (by rw [<- e];exact hb))];exact he,D.2,by simp,by
   have:=(Row.push (L.mono (A3v cols) (B0 G C)) (A3v cols _ _ _ _ C iw))
   simpa using this⟩
 ·rintro f ⟨s,p,n,A1,c1,d,g,⟨e,a⟩,J,T,o,L⟩
  have cp:f.cell? ⟨q,0,none⟩=some (.slice A1 rows c1):=g.cell (by unfold Heap.cell?;simp only [a];rfl)
  exact ⟨_,_,_,cp,hK A1 c1 f (B0 O (B0 d g.le)) ⟨n,J.slF g.ole,o,L.mono (A3v cols) g.le⟩⟩
end
section
variable {h:aG} {K:VP} {A B:Option aL} {n n2 cap cap2 m:Nat} {r c r2 c2:Int} {la lb:Nat->List UInt8} {w:QV} {q:Rat}
end
section
variable {h:aG} {K:VP} {A B:Option aL} {n w cap cap2 m:Nat} {f f2:Nat->Rat} {R:Nat->Nat->Rat}
def A0d(hs:∀ i,i<w->Sz m (f i))(hs2:∀ i,i<w->Sz m (f2 i)):∀ k,k<=w->Sz (1+k*(2*m+1)) (sm k (fun j=>f j*f2 j)):=by
 intro k
 induction k with
 | zero=>intro _;exact Sz.zero (by omega)
 | succ k ih=>
  intro c
  have a:=ih (by omega)
  have b:=(hs k (by omega)).mul (hs2 k (by omega))
  have e:1+(k+1)*(2*m+1)=1+k*(2*m+1)+(m+m)+1:=by rw [aM];omega
  rw [e]
  exact a.add b
def A4a(ra:bK NQr h A w f)(rb:bK NQr h B w f2)(hw:w<=10000)(hs:∀ i,i<w->Sz m (f i))(hs2:∀ i,i<w->Sz m (f2 i))(hm:1+w*(2*m+1)+2*m<=400000000)
 (hK:∀ v h',h.le h'->NQ h' v (sm w (fun j=>f j*f2 j))->K v.v h'):bC prog A94 #[.slice A w cap,.slice B w cap2] h K:=by
 refine C3h _ _ _ _ _ _ ?_
 unfold C81
 refine ⟨fun L u=>∃ (k:Nat) (v:QV),k<=w/\L=I (k:Int)::qc v/\h.le u/\NQ u v (sm k (fun j=>f j*f2 j)),fun L _=>w-(iAt L 0).toNat,⟨0,Ay,by omega,rfl,B4 _,NQ.zero⟩,?_⟩
 rintro z y q r e x p o g u ⟨k,v,F,t,l,D⟩
 simp only [bD,cC,true_and] at t
 obtain ⟨rfl,t⟩:=t
 obtain ⟨rfl,_⟩:=C1l (by simpa only [bD,cJ,aY,and_true] using t:(.bool y:cG) :: .slice q r e :: .bool x :: .slice p o g::[]= .bool v.s :: .slice v.A v.n v.c :: .bool v.s2 :: .slice v.A2 v.n2 v.c2::[])
 refine B6 (fun V=>?_) (fun M=>?_)
 ·have d:k<w:=by omega
  obtain ⟨T,Q,e5,O,c0,c1,c2,c3⟩:=(ra.mono Q5 l).qat d
  obtain ⟨a6,H,R,Z,X,g1,W,g3⟩:=(rb.mono Q5 l).qat d
  have G:k*(2*m+1)<=w*(2*m+1):=aD _ F
  refine ⟨T,e5,by omega,by omega,_,_,_,_,_,_,_,_,c0,c1,c2,c3,a6,R,by omega,by omega,_,_,_,_,_,_,_,_,X,g1,W,g3,?_⟩
  refine Nu (a:=Q) (b:=H) O Z (hs k d) (hs2 k d) (by omega) ?_
  intro w7 h7 C N
  refine ⟨_,_,_,_,_,_,_,_,rfl,C,?_⟩
  refine A3n (a:=⟨y,q,r,e,x,p,o,g⟩) (b:=w7) (m:=1+k*(2*m+1)+2*m) (NQ.mono C D) N ((A0d hs hs2 k F).mono (by omega)) (((hs k d).mul (hs2 k d)).mono (by omega)) (by omega) ?_
  intro S h8 E J
  rw [wiS k (by omega)]
  refine ⟨_,_,_,_,_,_,_,_,rfl,E,⟨k+1,S,by omega,rfl,B0 l (B0 C E),J⟩,?_⟩
  show w-((k+1:Nat):Int).toNat<w-(k:Int).toNat
  omega
 ·have:k=w:=by omega
  subst this
  exact hK ⟨y,q,r,e,x,p,o,g⟩ u l D
def A4b(rs:RowsV h A n w R)(rx:bK NQr h B w f)(hn:n<=10000)(hw:w<=10000)(hs:∀ i j,i<n->j<w->Sz m (R i j))(hs2:∀ i,i<w->Sz m (f i))(hm:1+w*(2*m+1)+2*m<=400000000)
 (hK:∀ b h',Own NQr h h' b n (fun i=>sm w (fun j=>R i j*f j))->K (.slice (some ⟨b,0,none⟩) n n) h'):bC prog A95 #[.slice A n cap,.slice B w cap2] h K:=by
 refine C3i _ _ _ _ _ _ ?_
 unfold C82
 refine K6 A09 (zx:=Ay) rfl (by omega) (by omega) (by omega) (by omega) ?_
 intro b F
 simp only [aH]
 refine ⟨_,_,_,rfl,fun L p=>∃ k:Nat,k<=n/\L=[I (k:Int)]/\OwnK NQr h p b n k (fun i=>sm w (fun j=>R i j*f j)),fun L _=>n-(iAt L 0).toNat,⟨0,by omega,rfl,OwnK.zero F⟩,?_⟩
 rintro z p ⟨k,T,H,g,o,O,d,s,r,q,t⟩
 obtain rfl:=sI1 H
 refine B6 (fun J=>?_) (fun E=>?_)
 ·have a:k<n:=by omega
  obtain ⟨x,X,e,M,G,l,c⟩:=rs.at a
  refine ⟨x,e,by omega,by omega,_,_,_,B9 (B0 d s.le) l,?_⟩
  rw [M]
  refine s.call (A4a (c.mono Q5 d) (rx.mono Q5 d) hw (fun j u=>hs k j a u) hs2 hm ?_)
  intro v V N C W D
  refine ⟨_,_,_,_,_,_,_,_,rfl,_,rfl,by omega,by omega,?_⟩
  refine OwnK.store Q5 Cu (y:=v) d N D r q t a rfl C ?_
  intro S Q
  rw [wiS k (by omega)]
  exact ⟨⟨k+1,by omega,rfl,Q⟩,by simp only [Ec];omega⟩
 ·have:k=n:=by omega
  subst this
  exact hK b p ⟨g,o,O,d,s,r,q,t⟩
end
structure VOut where
 n:Nat
 f:Nat->List UInt8
 e:Int
def noV(e:Int):VOut:=⟨0,fun _=>[],e⟩
def C6v(r c:Int)(n:Nat)(la:Nat->List UInt8)(n2:Nat)(lx:Nat->List UInt8)(o:VOut):Prop:=
 (¬ (Mx r c n la/\∀ i,i<n2->cV (lx i))/\o=noV 1)\/(Mx r c n la/\(∀ i,i<n2->cV (lx i))/\(n2:Int)≠c/\o=noV 4)\/(∃ rows cols,MOk r c n la rows cols/\(∀ i,i<n2->cV (lx i))/\(n2:Int)=c/\o=⟨rows,fun i=>H1 (sm cols (fun j=>mtx (rvs la) cols i j*rv (lx j))),0⟩)
section
variable {h:aG} {K:VP} {A B:Option aL} {n n2 cap cap2 m:Nat} {r c:Int} {la lx:Nat->List UInt8}
end
section
variable {h:aG} {K:VP} {A B:Option aL} {n n2 cap cap2 m:Nat} {r c:Int} {la lx:Nat->List UInt8}
def RowV.vat{w n:Nat}{f:Nat->Nat->Rat}(r:bK (VQr w) h A n f){i:Nat}(hi:i<n):∃ a v,A=some a/\VQr w h v (f i)/\h.cell? (aF (aF a (i*3)) 0)=some (.slice v.A v.n v.c)/\h.cell? (aF (aF a (i*3)) 1)=some (.bool v.s)/\h.cell? (aF (aF a (i*3)) 2)=some (.slice v.B v.bn v.bc):=by
 obtain ⟨a,v,e,q,b⟩:=RowV.at (by decide) r hi
 exact ⟨a,v,e,q,b 0 _ rfl,b 1 _ rfl,b 2 _ rfl⟩
def OwnS.none{h h':aG}{f:Nat->List UInt8}(l:h.le h'):OwnS h h' none 0 0 f:=⟨h',Bn,[],l,Sep.refl h',OwnSl.nil,rfl,Row.nil⟩
def Rq(gl:Gl h)(ra:bK SSr h A n la)(rx:bK SSr h B n2 lx)(hn:n<=1000000)(hn2:n2<=1000000)(hl:LL n la)(hl2:LL n2 lx)(hs:∀ i,i<n->Sz m (rv (la i)))(hs2:∀ i,i<n2->Sz m (rv (lx i)))(hm1:1<=m)(hm:∀ rows cols,MOk r c n la rows cols->2*(1+cols*(2*m+1)+2*m)+14<=40000000)
 (hK:∀ o,C6v r c n la n2 lx o->∀ A' cap' h',OwnS h h' A' cap' o.n o.f->K (.tuple #[.slice A' o.n cap',I o.e]) h'):bC prog Tp #[Ys r c A n cap,.slice B n2 cap2] h K:=by
 refine B6k _ _ _ _ _ _ _ _ ?_
 unfold C0w
 have G:¬ (Mx r c n la/\∀ i,i<n2->cV (lx i))->∀ h',h.le h'->K (.tuple #[.slice none 0 0,I 1]) h':=fun hx h' l=>hK (noV 1) (.inl ⟨hx,rfl⟩) none 0 h' (OwnS.none l)
 refine Ev gl ra hn hl (fun rows cols mk b1 h1 own=>?_) (fun E h1 D=>⟨_,_,_,_,rfl,?_⟩)
 ·have D:=own.le
  refine ⟨_,_,_,_,rfl,Al (gl.mono D) (rx.mono I9 D) hn2 hl2 (fun t b2 M p=>⟨_,_,_,_,rfl,Br.nt (Br.nt ?_)⟩) (fun E M N=>⟨_,_,_,_,rfl,Br.nt (Sx (G (fun x=>E x.2) M (B0 D N)))⟩)⟩
  have N:=p.le
  have F:=B0 D N
  refine I8 (fun e=>hK (noV 4) (.inr (.inl ⟨⟨_,_,mk⟩,t,e,rfl⟩)) none 0 M (OwnS.none F)) (fun e=>?_)
  have Q:=hK _ (.inr (.inr ⟨rows,cols,mk,t,e,rfl⟩))
  have:=mk.r1;have:=mk.r2;have:=mk.c1;have:=mk.c2
  obtain rfl:n2=cols:=by have:=mk.ec;omega
  obtain ⟨rfl,rfl,_,_,_,_,rfl,_⟩:=id mk
  have ms:=A3r hs
  have ad:=hm _ _ mk
  have ac:n2*m<=n2*(2*m+1):=Nat.mul_le_mul_left n2 (by omega)
  refine Ur (m:=m) (gl.mono F) (p.vis K5) (by omega) hs2 (by omega) ?_
  intro w h3 W iw
  refine ⟨_,_,_,_,_,_,_,rfl,?_⟩
  refine K6 Fz (zx:=([]:List UInt8)) rfl (by omega) (by omega) (by omega) (by omega) ?_
  intro b hb
  simp only [aH]
  refine ⟨_,_,_,rfl,Sep.call ((Sep.refl h3).new hb _) (Ia (m:=m) (gl.mono (B0 F W)) ((own.vis K5).mono K5 (B0 N W)) (aE _) (by omega) (by omega) (by omega) hs (by omega) ?_)⟩
  intro A4 c4 g4 l4 V h4 s4
  have H:=B0 F (B0 W l4)
  refine ⟨_,_,_,rfl,fun L hp=>∃ (k:Nat) (g o:aG) (xs:List (List UInt8)) (A':Option aL) (T:Nat),k<=rows/\L=[.slice A' k T,I (k:Int)]/\g4.le g/\Sep hp g o/\OwnSl o J5 A' T xs/\xs.length=k/\Row SSr g xs k (fun i=>H1 (sm n2 (fun j=>mtx (rvs la) n2 i j*rv (lx j)))),fun L _=>rows-(iAt L 1).toNat,
   ⟨0,g4,_,[],_,_,by omega,rfl,B4 _,s4,Ks,rfl,Row.nil⟩,?_⟩
  rintro rA C rc z hp ⟨k,g,o,xs,A',T,hk,eL,O,s,ow,d,rr⟩
  obtain ⟨⟨rfl,rfl,rfl⟩,rfl⟩:=sI2 eL
  refine B6 (fun af=>?_) (fun ae=>?_)
  ·have J:C<rows:=by omega
   obtain ⟨a,v,ea,iv,c0,c1,aa⟩:=(V.mono (A3v n2) O).vat J
   refine ⟨a,ea,by omega,by omega,_,_,_,_,_,_,_,B9 s.le c0,B9 s.le c1,B9 s.le aa,?_⟩
   refine s.call (Yd (m:=m) (v:=v) (u:=w) (gl.mono (B0 H O)) iv (A3v n2 _ _ _ _ (B0 l4 O) iw) (by omega) (fun j S=>ms C j J S) hs2 hm1 (by omega) ?_)
   intro q g5 Z iq h5 s5
   refine ⟨_,_,_,_,_,_,_,_,rfl,s5.call (T8 (gl.mono (B0 H (B0 O Z))).p10 iq (A0d (fun j S=>ms C j J S) hs2 n2 (aE _)) (by omega) ?_)⟩
   intro h6 s6
   refine ⟨_,rfl,?_⟩
   refine N4 (ty:=Fx) Fz s6 ow d.symm (y:=H1 (sm n2 (fun j=>mtx (rvs la) n2 C j*rv (lx j)))) rfl (by decide) (by omega) (by omega) ?_
   intro A7 c7 h7 g7 o7 l7 s7 X _
   rw [d,wiS C (by omega)]
   refine ⟨⟨C+1,g7,o7,_,A7,c7,by omega,rfl,B0 O (B0 Z l7),s7,X,by rw [aC,d];rfl,?_⟩,?_⟩
   ·have rB:=Row.push (R:=SSr) (g:=g7) (xs:=xs) (f:=fun i=>H1 (sm n2 (fun j=>mtx (rvs la) n2 i j*rv (lx j)))) (by rw [d];exact rr.mono I9 (B0 Z l7)) (w:=H1 (sm n2 (fun j=>mtx (rvs la) n2 C j*rv (lx j)))) (by rw [d])
    rw [aC,d] at rB
    exact rB
   ·show rows-((C+1:Nat):Int).toNat<rows-(C:Int).toNat
    omega
  ·have:C=rows:=by omega
   subst this
   exact Q rA rc hp ⟨g,o,xs,B0 H O,s,ow,d,rr⟩
 ·refine Al (gl.mono D) (rx.mono I9 D) hn2 hl2 (fun t b2 M p=>⟨_,_,_,_,rfl,Sx (G (fun x=>E x.1) M (B0 D p.le))⟩) (fun _ M N=>⟨_,_,_,_,rfl,Sx (G (fun x=>E x.1) M (B0 D N))⟩)
end
def C7y(r c:Int)(n:Nat)(la:Nat->List UInt8)(r2 c2:Int)(n2:Nat)(lb:Nat->List UInt8)(o:MOut):Prop:=
 (¬ (Mx r c n la/\Mx r2 c2 n2 lb)/\o=noM 1)\/(Mx r c n la/\Mx r2 c2 n2 lb/\c≠r2/\o=noM 4)\/(∃ rows mid cols,MOk r c n la rows mid/\MOk r2 c2 n2 lb mid cols/\o=⟨r,c2,rows*cols,fun k=>H1 (sm mid (fun j=>mtx (rvs la) mid (k/cols) j*mtx (rvs lb) cols j (k%cols))),0⟩)
def B0h{f f':Nat->Rat}: ∀ n,(∀ i,i<n->f i=f' i)->Bo f n=Bo f' n:=by
 intro n
 induction n with
 | zero=>intro _;rfl
 | succ n ih=>
  intro e
  show eB (Bo f n) (f n).den=eB (Bo f' n) (f' n).den
  rw [ih fun i a=>e i (by omega),e n (by omega)]
def VQr.congr{h:aG}{w:Nat}{v:VV}{f f':Nat->Rat}(x:VQr w h v f)(e:∀ i,i<w->f i=f' i):VQr w h v f':=by
 have g:Bo f w=Bo f' w:=B0h w e
 obtain ⟨a,b,c⟩:=x
 rw [g] at b c
 exact ⟨a,b,c.congr fun j d=>by rw [e j d]⟩
section
variable {h:aG} {K:VP} {A B:Option aL} {n n2 cap cap2 m:Nat} {r c r2 c2:Int} {la lb:Nat->List UInt8} {E:Nat->Rat}
def Oa{rows cols:Nat}(rv':bK RQr h A (rows*cols) E)(hr:rows<=10000)(hc:cols<=10000)
 (hK:∀ A' c' h' g' o' xs,h.le g'->Sep h' g' o'->OwnSl o' K0 A' c' xs->xs.length=rows*cols->Row RQr g' xs (rows*cols) (fun k=>E (k%rows*cols+k/rows))->K (.slice A' (rows*cols) c') h'):bC prog W6 #[.slice A (rows*cols) cap,I (rows:Int),I (cols:Int)] h K:=by
 refine Xx _ _ _ _ _ ?_
 unfold Wx
 have ad:rows*cols<=10000*10000:=bI hr hc
 refine K6 B2g (zx:=Ay) rfl (by omega) (by omega) (by omega) (by omega) ?_
 intro b hb
 simp only [aH]
 refine ⟨_,_,_,rfl,fun L x=>∃ (j:Nat) (g o:aG) (xs:List QV) (A':Option aL) (c':Nat),j<=cols/\L=[.slice A' (j*rows) c',I (j:Int)]/\h.le g/\Sep x g o/\OwnSl o K0 A' c' xs/\xs.length=j*rows/\Row RQr g xs (j*rows) (fun k=>E (k%rows*cols+k/rows)),fun L _=>cols-(iAt L 1).toNat,
  ⟨0,h,Bn.put b _,[],some ⟨b,0,none⟩,rows*cols,by omega,by rw [bW];rfl,B4 _,Z2 hb,Ks,by simp,by rw [bW];exact Row.nil⟩,?_⟩
 rintro S rn rc z x ⟨j,g,o,xs,A',c',hj,G,W,s,V,d,N⟩
 obtain ⟨⟨rfl,rfl,rfl⟩,rfl⟩:=sI2 G
 refine B6 (fun aa=>?_) (fun Z=>?_)
 ·have u:j<cols:=by omega
  have r:(j+1)*rows=j*rows+rows:=by rw [aM,aQ]
  have D:(j+1)*rows<=cols*rows:=aD _ u
  rw [aO cols rows] at D
  refine ⟨fun L x=>∃ (i:Nat) (g o:aG) (xs:List QV) (A':Option aL) (c':Nat),i<=rows/\L=[.slice A' (j*rows+i) c',I (i:Int)]/\h.le g/\Sep x g o/\OwnSl o K0 A' c' xs/\xs.length=j*rows+i/\Row RQr g xs (j*rows+i) (fun k=>E (k%rows*cols+k/rows)),fun L _=>rows-(iAt L 1).toNat,
   ⟨0,g,o,xs,S,rc,by omega,rfl,W,s,V,d,N⟩,?_⟩
  rintro X qn qc z ac ⟨i,g2,o2,B,A2,c2,hi,G,e,p,q,c,m⟩
  obtain ⟨⟨rfl,rfl,rfl⟩,rfl⟩:=sI2 G
  refine B6 (fun O=>?_) (fun T=>?_)
  ·have l:i<rows:=by omega
   have t:=Bp l u
   have ew:B5 (B5 ((i:Int)*(cols:Int))+(j:Int))=((i*cols+j:Nat):Int):=by
    rw [<- bF,Z6 (by omega)]
    exact Z6 (n:=i*cols+j) (by omega)
   rw [ew]
   obtain ⟨a,w,ea,iw,c0,c1,M,H⟩:=(rv'.mono K5 e).qat t
   refine ⟨a,ea,by omega,by omega,_,_,_,_,_,_,_,_,B9 p.le c0,B9 p.le c1,B9 p.le M,B9 p.le H,?_⟩
   refine N4 (ty:=V1) B2g p q c.symm (y:=w) rfl (by decide) (by rw [c];omega) (by rw [c];omega) ?_
   intro A3 H h3 J o3 F s3 C _
   rw [c,wiS i (by omega)]
   refine ⟨⟨i+1,J,o3,_,A3,H,by omega,by rw [dU],B0 e F,s3,C,by rw [aC,c];rfl,?_⟩,?_⟩
   ·have Q:=Row.push (R:=RQr) (g:=J) (xs:=B) (f:=fun k=>E (k%rows*cols+k/rows)) (by rw [c];exact m.mono K5 F) (w:=w) (by
     show RQ J w (E (B.length%rows*cols+B.length/rows))
     rw [c,cR (j*rows) i,bN,cK l,cD _ _ (by omega),bM l,aN]
     exact K5 _ _ _ _ F iw)
    rw [aC,c] at Q
    exact Q
   ·show rows-((i+1:Nat):Int).toNat<rows-(i:Int).toNat
    omega
  ·have:i=rows:=by omega
   subst this
   rw [wiS j (by omega),<- r]
   rw [<- r] at c m
   refine ⟨⟨j+1,g2,o2,B,X,qc,by omega,rfl,e,p,q,c,m⟩,?_⟩
   show cols-((j+1:Nat):Int).toNat<cols-(j:Int).toNat
   omega
 ·have:j=cols:=by omega
  subst this
  rw [aO j rows] at d N ⊢
  exact hK S rc x g o xs W s V d N
def A3t{rows cols:Nat}(rv':bK RQr h A (rows*cols) E)(hr:rows<=10000)(hc:cols<=10000)
 (hK:∀ A' c' h',h.le h'->rows*cols<=c'->bK RQr h' A' (rows*cols) (fun k=>E (k%rows*cols+k/rows))->K (.slice A' (rows*cols) c') h'):bC prog W6 #[.slice A (rows*cols) cap,I (rows:Int),I (cols:Int)] h K:=
 Oa rv' hr hc fun A' c' h' _ _ e d s b a c=>hK A' c' h' (B0 d s.le) (by have:=b.1;omega) ⟨e,b.slF s.ole,a,c.mono K5 s.le⟩
def B0f{d:Nat}(gl:Gl h)(ra:bK SSr h A n la)(rb:bK SSr h B n2 lb)(hn:n<=1000000)(hn2:n2<=1000000)(hl:LL n la)(hl2:LL n2 lb)(hs:∀ i,i<n->Sz m (rv (la i)))(hs2:∀ i,i<n2->Sz m (rv (lb i)))(hm1:1<=m)(hd:∀ rows mid,MOk r c n la rows mid->mid<=d)(hm:2*(1+d*(2*m+1)+2*m)+14<=40000000)
 (hK:∀ o,C7y r c n la r2 c2 n2 lb o->∀ A' cap' h',h.le h'->bK SSr h' A' o.n o.f->K (.tuple #[Ys o.r o.c A' o.n cap',I o.e]) h'):bC prog A92 #[Ys r c A n cap,Ys r2 c2 B n2 cap2] h K:=by
 refine C3g _ _ _ _ _ _ _ _ _ _ ?_
 unfold C7z
 have X:¬ (Mx r c n la/\Mx r2 c2 n2 lb)->∀ h',h.le h'->K (.tuple #[Ys 0 0 none 0 0,I 1]) h':=fun hx h' l=>hK (noM 1) (.inl ⟨hx,rfl⟩) none 0 h' l RowV.nil
 refine Ev gl ra hn hl (fun rows mid mk b1 h1 own=>?_) (fun M h1 J=>⟨_,_,_,_,rfl,?_⟩)
 ·have J:=own.le
  refine ⟨_,_,_,_,rfl,Ev (gl.mono J) (rb.mono I9 J) hn2 hl2 (fun C p E b2 T F=>⟨_,_,_,_,rfl,Br.nt (Br.nt ?_)⟩) (fun M T Z=>⟨_,_,_,_,rfl,Br.nt (Sx (X (fun x=>M x.2) T (B0 J Z)))⟩)⟩
  have Z:=F.le
  have W:=B0 J Z
  refine I8 (fun e=>hK (noM 4) (.inr (.inl ⟨⟨_,_,mk⟩,⟨_,_,E⟩,e,rfl⟩)) none 0 T W RowV.nil) (fun e=>?_)
  obtain rfl:C=mid:=by have:=mk.ec;have:=E.er;omega
  have ah:=hK _ (.inr (.inr ⟨rows,C,p,mk,E,rfl⟩))
  have:=mk.r1;have:=mk.r2;have:=mk.c1;have:=mk.c2;have:=E.c1;have:=E.c2
  obtain ⟨rfl,rfl,_,_,_,_,rfl,_⟩:=id mk
  obtain ⟨rfl,rfl,_,_,_,_,rfl,_⟩:=id E
  clear e
  have ms:=A3r hs
  have al:=A3r hs2
  have ai:=hd _ _ mk
  have a0:C*(2*m+1)<=d*(2*m+1):=aD _ ai
  have az:C*m<=d*m:=aD _ ai
  have ax:d*(2*m+1)=2*(d*m)+d:=by rw [Nat.mul_add,Nat.mul_one,Nat.mul_left_comm]
  have a5:rows*p<=64*64:=bI (by omega) (by omega)
  refine Ia (m:=m) (gl.mono W) ((own.vis K5).mono K5 Z) (aE _) (by omega) (by omega) (by omega) hs (by omega) ?_
  intro A3 c3 h3 l3 au
  refine ⟨_,_,_,rfl,?_⟩
  refine A3t ((F.vis K5).mono K5 l3) (by omega) (by omega) ?_
  intro A4 c4 h4 l4 ak af
  refine ⟨_,_,_,rfl,l4,?_⟩
  have ad:=B0 W (B0 l3 l4)
  rw [aO C p] at af ak ⊢
  refine Ia (m:=m) (gl.mono ad) af ak (by omega) (by omega) (by omega) (fun i hi=>?_) (by omega) ?_
  ·have aq:i/C<p:=cI (by rw [aO];exact hi)
   exact hs2 _ (Bp (dR i (show 0<C by omega)) aq)
  intro A5 c5 h5 l5 O
  have ar:bK (VQr C) h5 A5 p (fun j i=>mtx (rvs lb) p i j):=by
   obtain ⟨vs,sv,el,rr⟩:=O
   refine ⟨vs,sv,el,fun j hj=>?_⟩
   obtain ⟨w,e1,hw⟩:=rr j hj
   refine ⟨w,e1,?_⟩
   have:=VQr.congr (f':=fun i=>mtx (rvs lb) p i j) hw fun i hi=>?_
   ·exact this
   ·show rvs lb ((j*C+i)%C*p+(j*C+i)/C)=rvs lb (i*p+j)
    rw [cR (j*C) i,bN,cK hi,cD _ _ (by omega),bM hi,aN]
  clear O
  refine ⟨_,_,_,rfl,l5,?_⟩
  have aa:=B0 ad l5
  have am:=B0 l4 l5
  have ap:B5 ((rows:Int)*(p:Int))=((rows*p:Nat):Int):=by rw [<- bF];exact Z6 (by omega)
  rw [ap]
  refine K6 B2g (zx:=Ay) rfl (by omega) (by omega) (by omega) (by omega) ?_
  intro b hb
  simp only [aH]
  have sz:∀ i j,i<rows->j<p->Sz (1+d*(2*m+1)) (sm C (fun t=>mtx (rvs la) C i t*mtx (rvs lb) p t j)):=fun i j hi hj=>(A0d (f:=fun t=>mtx (rvs la) C i t) (f2:=fun t=>mtx (rvs lb) p t j) (fun t H=>ms i t hi H) (fun t H=>al t j H hj) C (aE _)).mono (by omega)
  refine ⟨_,_,_,rfl,fun L hp=>∃ (k:Nat) (g o:aG) (xs:List QV) (A':Option aL) (c':Nat),k<=rows/\L=[.slice A' (k*p) c',I (k:Int)]/\h5.le g/\Sep hp g o/\OwnSl o K0 A' c' xs/\xs.length=k*p/\Row RQr g xs (k*p) (fun k=>sm C (fun j=>mtx (rvs la) C (k/p) j*mtx (rvs lb) p j (k%p))),fun L _=>rows-(iAt L 1).toNat,
   ⟨0,h5,Bn.put b _,[],some ⟨b,0,none⟩,rows*p,by omega,by rw [bW];rfl,B4 _,Z2 hb,Ks,by simp,by rw [bW];exact Row.nil⟩,?_⟩
  rintro rA rn rc z hp ⟨k,g,o,xs,A',c',hk,eL,lg,s,ow,ag,rr⟩
  obtain ⟨⟨rfl,rfl,rfl⟩,rfl⟩:=sI2 eL
  refine B6 (fun a2=>?_) (fun a4=>?_)
  ·have S:k<rows:=by omega
   have aj:(k+1)*p=k*p+p:=by rw [aM,aQ]
   have a1:(k+1)*p<=rows*p:=aD _ S
   obtain ⟨a,v,ea,iv,c0,c1,an⟩:=(au.mono (A3v C) (B0 am lg)).vat S
   refine ⟨a,ea,by omega,by omega,_,_,_,_,_,_,_,B9 s.le c0,B9 s.le c1,B9 s.le an,?_⟩
   refine ⟨fun L hp=>∃ (j:Nat) (g' o:aG) (xs:List QV) (A':Option aL) (c':Nat),j<=p/\L=[.slice A' (k*p+j) c',I (j:Int)]/\g.le g'/\Sep hp g' o/\OwnSl o K0 A' c' xs/\xs.length=k*p+j/\Row RQr g' xs (k*p+j) (fun k=>sm C (fun j=>mtx (rvs la) C (k/p) j*mtx (rvs lb) p j (k%p))),fun L _=>p-(iAt L 1).toNat,
    ⟨0,g,o,xs,rA,rc,by omega,rfl,B4 _,s,ow,ag,rr⟩,?_⟩
   rintro qA qn qc z a3 ⟨j,g2,o2,ys,A2,c2,hj,eL,G,s2,ae,D,V⟩
   obtain ⟨⟨rfl,rfl,rfl⟩,rfl⟩:=sI2 eL
   refine B6 (fun aw=>?_) (fun ay=>?_)
   ·have N:j<p:=by omega
    obtain ⟨a6,u,av,iu,d0,d1,d2⟩:=(ar.mono (A3v C) (B0 lg G)).vat N
    refine ⟨a6,av,by omega,by omega,_,_,_,_,_,_,_,B9 s2.le d0,B9 s2.le d1,B9 s2.le d2,?_⟩
    refine s2.call (Yd (m:=m) (v:=v) (u:=u) (gl.mono (B0 aa (B0 lg G))) (A3v C _ _ _ _ G iv) iu (by omega) (fun t H=>ms k t S H) (fun t H=>al t j H N) hm1 (by omega) ?_)
    intro q g7 l7 iq h7 s7
    refine ⟨_,_,_,_,_,_,_,_,rfl,?_⟩
    refine N4 (ty:=V1) B2g s7 ae D.symm (y:=q) rfl (by decide) (by rw [D];omega) (by rw [D];omega) ?_
    intro A8 c8 h8 g8 o8 l8 s8 ao _
    rw [D,wiS j (by omega)]
    refine ⟨⟨j+1,g8,o8,_,A8,c8,by omega,by rw [dU],B0 G (B0 l7 l8),s8,ao,by rw [aC,D];rfl,?_⟩,?_⟩
    ·have rB:=Row.push (R:=RQr) (g:=g8) (xs:=ys) (f:=fun k=>sm C (fun j=>mtx (rvs la) C (k/p) j*mtx (rvs lb) p j (k%p))) (by rw [D];exact V.mono K5 (B0 l7 l8)) (w:=q) (by
      show RQ g8 q (sm C (fun t=>mtx (rvs la) C (ys.length/p) t*mtx (rvs lb) p t (ys.length%p)))
      rw [D,cR (k*p) j,bN,cK N,cD _ _ (by omega),bM N,aN]
      exact K5 _ _ _ _ l8 iq)
     rw [aC,D] at rB
     exact rB
    ·show p-((j+1:Nat):Int).toNat<p-(j:Int).toNat
     omega
   ·have:j=p:=by omega
    subst this
    rw [wiS k (by omega),<- aj]
    rw [<- aj] at D V
    refine ⟨⟨k+1,g2,o2,ys,qA,qc,by omega,rfl,B0 lg G,s2,ae,D,V⟩,?_⟩
    show rows-((k+1:Nat):Int).toNat<rows-(k:Int).toNat
    omega
  ·have:k=rows:=by omega
   subst this
   have ac:=B0 aa (B0 lg s.le)
   have rq:bK RQr hp rA (k*p) (fun t=>sm C (fun j=>mtx (rvs la) C (t/p) j*mtx (rvs lb) p j (t%p))):=⟨xs,ow.slF s.ole,ag,rr.mono K5 s.le⟩
   refine A6m (m:=1+d*(2*m+1)) (gl.mono ac) rq (by omega) (fun t H=>?_) (by omega) ?_
   ·exact sz _ _ (cI (by rw [aO];exact H)) (dR t (show 0<p by omega))
   intro b9 h9 Q
   exact ⟨_,_,_,_,_,rfl,ah _ _ h9 (B0 ac Q.le) (Q.vis I9)⟩
 ·refine Ev (gl.mono J) (rb.mono I9 J) hn2 hl2 (fun C p E b2 T F=>⟨_,_,_,_,rfl,Sx (X (fun x=>M x.1) T (B0 J F.le))⟩) (fun _ T Z=>⟨_,_,_,_,rfl,Sx (X (fun x=>M x.1) T (B0 J Z))⟩)
def B3t(gl:Gl h)(ra:bK SSr h A n la)(rb:bK SSr h B n2 lb)(hn:n<=1000000)(hn2:n2<=1000000)(hl:LL n la)(hl2:LL n2 lb)(hs:∀ i,i<n->Sz m (rv (la i)))(hs2:∀ i,i<n2->Sz m (rv (lb i)))(hm1:1<=m)(hm:2*(1+64*(2*m+1)+2*m)+14<=40000000)
 (hK:∀ o,C7y r c n la r2 c2 n2 lb o->∀ A' cap' h',h.le h'->bK SSr h' A' o.n o.f->K (.tuple #[Ys o.r o.c A' o.n cap',I o.e]) h'):bC prog A92 #[Ys r c A n cap,Ys r2 c2 B n2 cap2] h K:=
 B0f gl ra rb hn hn2 hl hl2 hs hs2 hm1 (d:=64) (fun _ _ mk=>mk.c2) hm hK
end
def C6s(r c:Int)(n:Nat)(la:Nat->List UInt8)(n2:Nat)(lx:Nat->List UInt8)(o:VOut):Prop:=
 (¬ (Mx r c n la/\∀ i,i<n2->cV (lx i))/\o=noV 1)\/(Mx r c n la/\(∀ i,i<n2->cV (lx i))/\(n2:Int)≠r/\o=noV 4)\/(∃ rows cols,MOk r c n la rows cols/\(∀ i,i<n2->cV (lx i))/\(n2:Int)=r/\((Ms (rvs la) (rvs lx) rows cols/\o=⟨cols,fun i=>H1 (A39 (rvs la) (rvs lx) rows cols i),0⟩)\/(¬ Ms (rvs la) (rvs lx) rows cols/\o=noV 8)))
def C87(r c:Int)(n:Nat)(la:Nat->List UInt8)(n2:Nat)(lx:Nat->List UInt8)(e:Int)(ny:Nat)(fy:Nat->List UInt8):Prop:=
 (e≠8/\ny=0)\/(e=8/\∃ rows cols,MOk r c n la rows cols/\(∀ i,i<n2->cV (lx i))/\(n2:Int)=r/\¬ Ms (rvs la) (rvs lx) rows cols/\ny=rows/\fy=fun i=>H1 (A39 (A2o (rvs la) (rvs lx) rows cols) (B31 cols) (cols+1) rows i))
def Td{E b:Nat->Rat}{rows cols m nq:Nat}(hs:∀ i,i<rows*cols->Sz m (E i))(hb:∀ i,i<rows->Sz m (b i))(hm:1<=m)(hnq:(Nd E b rows cols).cs.length<=nq):∀ j,Sz (7^nq*m) (A39 E b rows cols j):=
 C1f (m:=m) (Tf nq m hm) (B4m (n:=rows) (w:=cols+1) (c:=cols) (A3r (A81 hs hb)) hm (by omega) hnq (aE _)).1
def B2z{E b:Nat->Rat}{rows cols m:Nat}(hr:1<=rows)(hs:∀ i,i<rows*cols->Sz m (E i))(hb:∀ i,i<rows->Sz m (b i)):∀ i,i<(cols+1)*rows->Sz m (A2o E b rows cols i):=by
 intro i a
 rw [aM,aQ] at a
 unfold A2o
 by_cases e:i<cols*rows
 ·rw [iP e]
  refine hs _ (Bp (dR i (by omega)) (cI (by rw [aO];exact e)))
 ·rw [iN e];exact hb _ (by omega)
def B30{cols m:Nat}(hm:1<=m):∀ i,i<cols+1->Sz m (B31 cols i):=by
 intro i _
 unfold B31
 split
 ·exact ⟨ZB.one hm,ZB.one hm⟩
 ·exact Sz.zero hm
section
variable {h:aG} {K:VP} {A B:Option aL} {n n2 cap cap2 m:Nat} {r c:Int} {la lx:Nat->List UInt8}
def A3u(gl:Gl h)(ra:bK SSr h A n la)(rx:bK SSr h B n2 lx)(hn:n<=1000000)(hn2:n2<=1000000)(hl:LL n la)(hl2:LL n2 lx)(hs:∀ i,i<n->Sz m (rv (la i)))(hs2:∀ i,i<n2->Sz m (rv (lx i)))(hm1:1<=m)
 (hb1:∀ rows cols,MOk r c n la rows cols->∃ nq nk,(∀ j,j<=cols->(elE (L5 (rvs la) (rvs lx) cols) rows (cols+1) j).cs.length<=nq)/\(∀ j,j<=rows->(elE (L5 (A2o (rvs la) (rvs lx) rows cols) (B31 cols) rows) (cols+1) (rows+1) j).cs.length<=nk)/\2*(3^nq*bnd (cols+1) m)+1<=40000000/\2*(3^nk*bnd (rows+1) m)+1<=40000000/\7^nq*m<=40000000/\7^nk*m<=40000000)
 (hK:∀ o,C6s r c n la n2 lx o->∀ ny fy,C87 r c n la n2 lx o.e ny fy->∀ A' cap' A2 cap2' h',h.le h'->bK SSr h' A' o.n o.f->bK SSr h' A2 ny fy->K (.tuple #[.slice A' o.n cap',.slice A2 ny cap2',I o.e]) h'):bC prog A1j #[Ys r c A n cap,.slice B n2 cap2] h K:=by
 refine B6g _ _ _ _ _ _ _ _ ?_
 unfold C0u
 have J:¬ (Mx r c n la/\∀ i,i<n2->cV (lx i))->∀ h',h.le h'->K (.tuple #[.slice none 0 0,.slice none 0 0,I 1]) h':=fun hx h' l=>hK (noV 1) (.inl ⟨hx,rfl⟩) 0 (fun _=>[]) (.inl ⟨by decide,rfl⟩) none 0 none 0 h' l RowV.nil RowV.nil
 refine Ev gl ra hn hl (fun rows cols mk b1 h1 own=>?_) (fun g h1 u=>⟨_,_,_,_,rfl,?_⟩)
 ·have u:=own.le
  refine ⟨_,_,_,_,rfl,Al (gl.mono u) (rx.mono I9 u) hn2 hl2 (fun a b2 z d=>⟨_,_,_,_,rfl,Br.nt (Br.nt ?_)⟩) (fun g z F=>⟨_,_,_,_,rfl,Br.nt (Sx (J (fun x=>g x.2) z (B0 u F)))⟩)⟩
  have F:=d.le
  have t:=B0 u F
  refine I8 (fun e=>hK (noV 4) (.inr (.inl ⟨⟨_,_,mk⟩,a,e,rfl⟩)) 0 (fun _=>[]) (.inl ⟨by decide,rfl⟩) none 0 none 0 z t RowV.nil RowV.nil) (fun e=>?_)
  have O:=fun x=>hK ⟨cols,fun i=>H1 (A39 (rvs la) (rvs lx) rows cols i),0⟩ (.inr (.inr ⟨rows,cols,mk,a,e,.inl ⟨x,rfl⟩⟩)) 0 (fun _=>[]) (.inl ⟨show (0:Int)≠8 by decide,rfl⟩)
  have ae:=fun w=>hK (noV 8) (.inr (.inr ⟨rows,cols,mk,a,e,.inr ⟨w,rfl⟩⟩)) rows (fun i=>H1 (A39 (A2o (rvs la) (rvs lx) rows cols) (B31 cols) (cols+1) rows i)) (.inr ⟨rfl,rows,cols,mk,a,e,w,rfl,rfl⟩)
  obtain ⟨nq,nk,u1,u2,k1,k2,k3,k4⟩:=hb1 rows cols mk
  have:=mk.r1;have:=mk.r2;have:=mk.c1;have:=mk.c2
  obtain rfl:n2=rows:=by have:=mk.er;omega
  obtain ⟨rfl,rfl,_,_,_,_,rfl,_⟩:=id mk
  have am:n2*cols<=64*64:=bI (by omega) (by omega)
  have hX:=Td hs hs2 hm1 (u1 cols (aE _))
  refine Ob (nq:=nq) (E:=rvs la) (b:=rvs lx) (m:=m) (gl.mono t) ((own.vis K5).mono K5 F) (aE _) (d.vis K5) (aE _) (by omega) (by omega) (by omega) (by omega) hs hs2 u1 k1 (fun Q b3 h3 L Z=>⟨_,_,_,_,rfl,?_⟩) (fun g h3 L=>⟨_,_,_,_,rfl,?_⟩)
  ·refine Ig (m:=7^nq*m) (gl.mono (B0 t L)) Z (by omega) (fun i _=>hX i) k3 ?_
   intro b4 h4 C
   exact ⟨_,_,_,rfl,O Q _ _ none 0 h4 (B0 t (B0 L C.le)) (C.vis I9) RowV.nil⟩
  ·refine Oa ((own.vis K5).mono K5 (B0 F L)) (by omega) (by omega) ?_
   intro A4 c4 h4 g4 o4 xs l4 s4 R p S
   refine ⟨_,_,_,rfl,?_⟩
   have aa:=B0 t (B0 L l4)
   obtain ⟨ys,sy,s,qy⟩:=(d.vis K5).mono K5 (B0 L l4)
   refine OwnSl.app (ty:=V1) B2g s4 R p.symm s.symm (by rintro rfl;simp at s;omega) (sy.mono s4.le) (by rw [p,s];omega) (by rw [p,s];omega) ?_
   intro A5 c5 X g5 o5 V M H _
   refine ⟨_,_,_,rfl,?_⟩
   have e2:n2*cols+n2=(cols+1)*n2:=by rw [aM,aQ,aO cols n2]
   have D:(xs++ys).length=(cols+1)*n2:=by rw [aC,p,s,e2]
   have r5:bK RQr X A5 ((cols+1)*n2) (A2o (rvs la) (rvs lx) n2 cols):=by
    refine ⟨xs++ys,H.slF M.ole,D,?_⟩
    rw [<- e2]
    refine Row.app p (((S.mono K5 V).mono K5 M.le).congr fun k hk=>?_) (((qy.mono K5 V).mono K5 M.le).congr fun k hk=>?_)
    ·unfold A2o
     rw [iP (by rw [aO];exact hk)]
    ·unfold A2o
     rw [aO cols n2,iN (by omega),cO]
   have ai:(cols+1)*n2<=c5:=by have:=H.1;omega
   have W:=B0 aa (B0 V M.le)
   have aj:z.le X:=B0 L (B0 l4 (B0 V M.le))
   rw [p,e2]
   clear s4 R S M H qy sy
   have ew:B5 ((cols:Int)+1)=((cols+1:Nat):Int):=B7 (by omega) (by omega)
   rw [ew]
   refine K6 B2g (zx:=Ay) rfl (by omega) (by omega) (by omega) (by omega) ?_
   intro b6 ac
   simp only [aH]
   have s6:=(Sep.refl X).new ac (.cells ((aP (cols+1) Ay).flatMap enc).toArray K0)
   refine ⟨_,_,_,rfl,s6.call (A60 ⟨by omega,by omega⟩ ?_)⟩
   intro w7 g7 l7 i7 h7 s7
   have one:((1:Int):Rat)=1:=rfl
   rw [one] at i7
   refine ⟨_,_,_,_,_,_,_,_,rfl,s6.le_le s7 l7,_,rfl,by omega,by omega,?_⟩
   refine S4 Tc (y:=w7) rfl s7 RowX.mk (i:=cols) (by rw [aK];omega) ?_
   intro h8 o8 x8 al T ag
   have G:=B0 W (B0 l7 T.le)
   have ad:=B0 l7 T.le
   have r0:Row RQr g7 (aP (cols+1) Ay) (cols+1) (fun _=>0):=fun i hi=>⟨Ay,by rw [cP,iP hi],RQ.zero⟩
   have r8:bK RQr h8 (some ⟨b6,0,none⟩) (cols+1) (B31 cols):=⟨_,ag.rowB.slF T.ole,by rw [bO,aK],((r0.upd (by rw [aK];omega) i7).mono K5 T.le)⟩
   have af:=Td (B2z (by omega) hs hs2) (B30 (cols:=cols) hm1) hm1 (u2 n2 (aE _))
   refine Ob (nq:=nk) (E:=A2o (rvs la) (rvs lx) n2 cols) (b:=B31 cols) (rows:=cols+1) (cols:=n2) (m:=m) (gl.mono G) (r5.mono K5 ad) ai r8 (aE _) (by omega) (by omega) (by omega) (by omega) (B2z (by omega) hs hs2) (B30 hm1) u2 k2 (fun Q b9 h9 l9 Z=>⟨_,_,_,_,rfl,?_⟩) (fun N _ _=>absurd (C43 g) N)
   refine Ig (m:=7^nk*m) (gl.mono (B0 G l9)) Z (by omega) (fun i _=>af i) k4 ?_
   intro ak ah q
   exact ⟨_,_,_,rfl,ae g none 0 _ _ ah (B0 G (B0 l9 q.le)) RowV.nil (q.vis I9)⟩
 ·refine Al (gl.mono u) (rx.mono I9 u) hn2 hl2 (fun a b2 z d=>⟨_,_,_,_,rfl,Sx (J (fun x=>g x.1) z (B0 u d.le))⟩) (fun _ z F=>⟨_,_,_,_,rfl,Sx (J (fun x=>g x.1) z (B0 u F))⟩)
end
end Go.Proofs.YtmbfcbbkbefgfaaGreatDoor
namespace Go.Proofs.YtmbfcbbkbefgfaaGreatDoor
set_option maxRecDepth 20000
def ldA(A:Nat->Nat->Rat):Nat->Nat->Nat->Rat
 | 0=>A
 | k+1=>fun i j=>if ldA A k k k=0 then ldA A k i j else ldA A k i j-ldA A k i k*(ldA A k k j/ldA A k k k)
def C88(n:Nat)(A:Nat->Nat->Rat):Prop:=∀ i j,i<n->j<n->A i j=A j i
structure LdR (n k:Nat) (A:Nat->Nat->Rat) (s:ES):Prop where
 len:s.cs.length<=k
 low:∀ i j,k<=i->i<n->j<n->s.R i j=ldA A k i j
 zero:∀ i j,s.cs.length<=i->i<k->j<n->s.R i j=0
def qf(n:Nat)(A:Nat->Nat->Rat)(x:Nat->Rat):Rat:=sm n fun i=>x i*sm n fun j=>A i j*x j
end Go.Proofs.YtmbfcbbkbefgfaaGreatDoor
namespace Go.Proofs.YtmbfcbbkbefgfaaGreatDoor
set_option maxRecDepth 20000
def B7c{k a:Nat}(ha:a<=k)(t:Nat->Rat):sm (k+1) t=t a+sm k (fun i=>t (rhx a i)):=by
 rw [B9p ha]
 have e:sm (k+1) t=sm (k+1) (fun i=>if i=a then t a else 0)+sm (k+1) (fun i=>if i=a then 0 else t i):=by
  rw [<- Ii]
  refine C8 fun i _=>?_
  by_cases c:i=a
  ·rw [iP c,iP c,c,bV]
  ·rw [iN c,iN c,dA]
 rw [e,Ud (show a<k+1 by omega) fun i _ c=>iN c,iP rfl]
def C1t:∀ (L:List (Nat->Rat)) (n:Nat),L.length<n->∃ x:Nat->Rat,(∃ j,j<n/\x j≠0)/\∀ f∈L,sm n (fun j=>f j*x j)=0:=by
 intro L
 generalize hm:L.length=m
 induction m generalizing L with
 | zero=>
  intro n u
  have:L=[]:=List.length_eq_zero_iff.1 hm
  subst this
  exact ⟨fun _=>1,⟨0,u,by decide +kernel⟩,fun f B=>by cases B⟩
 | succ m ih=>
  intro n u
  match L,hm with
  | f::L,hm=>
   have s:L.length=m:=by simpa using hm
   by_cases h:∀ j,j<n->f j=0
   ·obtain ⟨x,A,o⟩:=ih L s n (by omega)
    refine ⟨x,A,fun g r=>?_⟩
    rcases List.mem_cons.1 r with e|e
    ·rw [e];exact T4 fun j d=>by rw [h j d,aZ]
    ·exact o g e
   ·have:∃ a,a<n/\f a≠0:=bG fun c=>h fun j d=>bG fun z=>c ⟨j,d,z⟩
    obtain ⟨a,E,D⟩:=this
    obtain ⟨k,rfl⟩:∃ k,n=k+1:=⟨n-1,by omega⟩
    obtain ⟨y,⟨j,d,w⟩,o⟩:=ih (L.map fun g=>fun j=>g (rhx a j)-g a/f a*f (rhx a j)) (by simpa using s) k (by omega)
    have l:∀ i,(if rhx a i<a then rhx a i else rhx a i-1)=i:=fun i=>by unfold rhx;repeat' split
                                                                       all_goals omega
    refine ⟨fun b=>if b=a then-(sm k (fun i=>f (rhx a i)*y i)/f a) else y (if b<a then b else b-1),⟨rhx a j,A3j d,?_⟩,fun g r=>?_⟩
    ·show (if rhx a j=a then _ else _)≠(0:Rat)
     rw [iN (B2x a j),l];exact w
    ·rw [B7c (show a<=k by omega)]
     have p:sm k (fun i=>g (rhx a i)*(if rhx a i=a then-(sm k (fun i=>f (rhx a i)*y i)/f a) else y (if rhx a i<a then rhx a i else rhx a i-1)))=sm k (fun i=>g (rhx a i)*y i):=C8 fun i _=>by rw [iN (B2x a i),l]
     show g a*(if a=a then _ else _)+sm k (fun i=>g (rhx a i)*(if rhx a i=a then _ else _))=0
     rw [iP rfl,p]
     rcases List.mem_cons.1 r with e|e
     ·rw [e]
      generalize sm k (fun i=>f (rhx a i)*y i)=q
      clear p h ih o
      grind
     ·have C:=o _ (List.mem_map.2 ⟨g,e,rfl⟩)
      have t:sm k (fun i=>(g (rhx a i)-g a/f a*f (rhx a i))*y i)=sm k (fun i=>g (rhx a i)*y i)-g a/f a*sm k (fun i=>f (rhx a i)*y i):=by
       rw [dE,<- Hh,<- Ue,<- Ii]
       exact C8 fun i _=>by grind
      rw [t] at C
      generalize sm k (fun i=>f (rhx a i)*y i)=q at *
      generalize sm k (fun i=>g (rhx a i)*y i)=q' at *
      clear p h ih o t
      grind
def B2o{n:Nat}{f:Nat->Rat}(h:∀ i,i<n->0<=f i):0<=sm n f:=by
 induction n with
 | zero=>exact Rat.le_refl
 | succ n ih=>
  show 0<=sm n f+f n
  have c:=ih fun i a=>h i (by omega)
  have b:=h n (by omega)
  grind
def Xc{n:Nat}{f:Nat->Rat}(h:∀ i,i<n->0<=f i)(hz:sm n f<=0):∀ i,i<n->f i=0:=by
 induction n with
 | zero=>intro i a;omega
 | succ n ih=>
  have e:sm (n+1) f=sm n f+f n:=rfl
  rw [e] at hz
  have d:=B2o fun i (a:i<n)=>h i (by omega)
  have b:=h n (by omega)
  intro i a
  by_cases c:i=n
  ·rw [c];grind
  ·exact ih (fun i a=>h i (by omega)) (by grind) i (by omega)
def B2m(q:Rat):0<=q*q:=by
 rcases Rat.le_total (a:=0) (b:=q) with h|h
 ·exact dQ h h
 ·have c:0 <= -q:=by grind
  have:=dQ c c
  grind
def C1b{q:Rat}(h:q*q=0):q=0:=by
 rcases Rat.mul_eq_zero.1 h with e|e<;>exact e
def ev(n:Nat)(f x:Nat->Rat):Rat:=sm n fun j=>f j*x j
structure Diag (n:Nat) (A:Nat->Nat->Rat) (d:Nat->Rat) (F:Nat->Nat->Rat):Prop where
 val:∀ x,qf n A x=sm n fun m=>d m*(ev n (F m) x*ev n (F m) x)
 inj:∀ x,(∀ m,m<n->ev n (F m) x=0)->∀ j,j<n->x j=0
structure PD (n k:Nat) (A0:Nat->Nat->Rat) (d:Nat->Rat) (F A:Nat->Nat->Rat):Prop where
 val:∀ x,qf n A0 x=sm k (fun m=>d m*(ev n (F m) x*ev n (F m) x))+qf n A (fun i=>ev n (F i) x)
 inj:∀ x,(∀ m,m<n->ev n (F m) x=0)->∀ j,j<n->x j=0
 zero:∀ i j,i<n->j<n->i<k\/j<k->A i j=0
 symm:C88 n A
end Go.Proofs.YtmbfcbbkbefgfaaGreatDoor
namespace Go.Proofs.YtmbfcbbkbefgfaaGreatDoor
set_option maxRecDepth 20000
structure TE (n k:Nat) (R:Nat->Nat->Rat) (M:Nat->Nat->Int) (S:Nat->Rat) (last:Int):Prop where
 elim:∃ B R',(∀ i j,i<n->j<n->Wh (B i j))/\Elim n n B R' (fun m=>m) k/\(last:Rat)=dp B (fun m=>m) k/\∀ i j,k<=i->i<n->j<n->R' i j=S i*R i j
 ne:last≠0
 val:∀ i j,k<=i->i<n->j<n->(M i j:Rat)=last*(S i*R i j)
 scale:∀ i,k<=i->i<n->0<S i
end Go.Proofs.YtmbfcbbkbefgfaaGreatDoor
namespace Go.Proofs.YtmbfcbbkbefgfaaGreatDoor
set_option maxRecDepth 20000
def B2p{n:Nat}(p:Nat->Rat)(q:Rat):sm n (fun t=>p t*q)=(sm n p)*q:=by
 rw [aW,<- Hh]
 exact C8 fun t _=>aW _ _
end Go.Proofs.YtmbfcbbkbefgfaaGreatDoor
namespace Go.Proofs.YtmbfcbbkbefgfaaGreatDoor
set_option maxRecDepth 20000
def prC(M:Nat->Nat->Rat)(w:Nat->Rat):Nat->Nat->Rat:=fun i j=>M j i/w i
def prP(m:Nat)(M:Nat->Nat->Rat)(w:Nat->Rat):Nat->Nat->Rat:=fun i j=>sm m fun t=>M i t*prC M w t j
def prR(m:Nat)(M:Nat->Nat->Rat)(b x:Nat->Rat):Nat->Rat:=fun i=>b i-sm m fun t=>M i t*x t
def prZ(n:Nat)(M:Nat->Nat->Rat)(w x y:Nat->Rat):Nat->Rat:=fun i=>x i+sm n fun j=>prC M w i j*y j
def Uf{n m:Nat}(f:Nat->Rat)(C:Nat->Nat->Rat)(y:Nat->Rat):(sm m fun t=>f t*sm n fun j=>C t j*y j)=sm n fun j=>(sm m fun t=>f t*C t j)*y j:=by
 have e:(sm m fun t=>f t*sm n fun j=>C t j*y j)=sm m fun t=>sm n fun j=>f t*C t j*y j:=C8 fun t _=>by
  rw [<- Hh]
  exact C8 fun j _=>by grind
 rw [e,A66]
 exact C8 fun j _=>B2p _ _
def B38{n m:Nat}{M:Nat->Nat->Rat}{w b x y:Nat->Rat}(h:∀ i,i<n->sm n (fun j=>prP m M w i j*y j)=prR m M b x i){i:Nat}(hi:i<n):sm m (fun t=>M i t*prZ n M w x y t)=b i:=by
 have e:sm m (fun t=>M i t*prZ n M w x y t)=sm m (fun t=>M i t*x t+M i t*sm n fun j=>prC M w t j*y j):=C8 fun t _=>by unfold prZ;grind
 rw [e,Ii,Uf]
 have:=h i hi
 unfold prP prR at this
 rw [this]
 grind
def C6a{n m:Nat}{M:Nat->Nat->Rat}{w b x u:Nat->Rat}{E r:Nat->Rat}(hw:∀ t,t<m->0<w t)(hb:∀ i,i<n->b i=sm m fun t=>M i t*u t)(hE:∀ i j,i<n->j<n->mtx E n i j=prP m M w i j)(hr:∀ i,i<n->r i=prR m M b x i):Ms E r n n:=by
 refine bG fun g=>?_
 obtain ⟨v,y,d⟩:=A8b g
 have C:sm n (fun j=>(sm n fun l=>v l*prP m M w l j)*v j)=0:=T4 fun j k=>by
  have:=y j k
  rw [C8 fun l c=>by rw [hE l j c k]] at this
  rw [this,aZ]
 have A:sm n (fun j=>(sm n fun l=>v l*prP m M w l j)*v j)=sm m fun t=>(sm n fun l=>v l*M l t)*(sm n fun l=>v l*M l t)/w t:=by
  have e:∀ j,(sm n fun l=>v l*prP m M w l j)=sm m fun t=>(sm n fun l=>v l*M l t)*prC M w t j:=fun j=>Uf v M _
  rw [C8 fun j _=>by rw [e j]]
  have D:(sm n fun j=>(sm m fun t=>(sm n fun l=>v l*M l t)*prC M w t j)*v j)=sm m fun t=>(sm n fun l=>v l*M l t)*sm n fun j=>prC M w t j*v j:=(Uf _ _ _).symm
  rw [D]
  refine C8 fun t _=>?_
  have q:(sm n fun j=>prC M w t j*v j)=(sm n fun l=>v l*M l t)/w t:=by
   rw [aV,<- B2p]
   exact C8 fun j _=>by unfold prC;rw [aV];grind
  rw [q,aV,aV]
  grind
 have z:=Xc (n:=m) (f:=fun t=>(sm n fun l=>v l*M l t)*(sm n fun l=>v l*M l t)/w t) (fun t a=>by
  have d:=B2m (sm n fun l=>v l*M l t)
  have o:=hw t a
  rw [aV]
  exact dQ d (Rat.le_of_lt (Rat.inv_pos.2 o))) (by rw [<- A,C];exact Rat.le_refl)
 have s:∀ t,t<m->(sm n fun l=>v l*M l t)=0:=fun t a=>by
  have B:(sm n fun l=>v l*M l t)*(sm n fun l=>v l*M l t)/w t=0:=z t a
  have o:=hw t a
  refine C1b ?_
  have F:(sm n fun l=>v l*M l t)*(sm n fun l=>v l*M l t)=(sm n fun l=>v l*M l t)*(sm n fun l=>v l*M l t)/w t*w t:=(dF (by grind)).symm
  rw [F,B,aZ]
 have p:sm n (fun l=>v l*r l)=0:=by
  have e:sm n (fun l=>v l*r l)=sm n (fun l=>v l*sm m fun t=>M l t*(u t-x t)):=C8 fun l c=>by
   rw [hr l c]
   unfold prR
   rw [hb l c]
   congr 1
   have:(sm m fun t=>M l t*(u t-x t))=sm m fun t=>M l t*u t + - (M l t*x t):=C8 fun t _=>by grind
   rw [this,Ii,Ue]
   grind
  rw [e,Uf]
  exact T4 fun t a=>by rw [s t a,aZ]
 rw [p] at d
 exact absurd d (by decide +kernel)
def B7p{n m:Nat}{M:Nat->Nat->Rat}{w x y k:Nat->Rat}(hw:∀ t,t<m->0<w t)(hk:∀ i,i<n->sm m (fun t=>M i t*k t)=0):sm m (fun t=>k t*(w t*(prZ n M w x y t-x t)))=0:=by
 have e:sm m (fun t=>k t*(w t*(prZ n M w x y t-x t)))=sm m (fun t=>k t*sm n fun j=>M j t*y j):=C8 fun t c=>by
  congr 1
  unfold prZ
  have f:=hw t c
  have a:(sm n fun j=>prC M w t j*y j)=(sm n fun j=>M j t*y j)*(w t)⁻¹:=by
   rw [<- B2p]
   exact C8 fun j _=>by unfold prC;rw [aV];grind
  rw [a]
  have d:w t*(w t)⁻¹=1:=Rat.mul_inv_cancel _ (by grind)
  have:w t*(x t+(sm n fun j=>M j t*y j)*(w t)⁻¹-x t)=(sm n fun j=>M j t*y j)*(w t*(w t)⁻¹):=by grind
  rw [this,d,Rat.mul_one]
 rw [e,Uf (C:=fun t j=>M j t)]
 refine T4 fun j b=>?_
 have:(sm m fun t=>k t*M j t)=0:=by
  rw [<- hk j b]
  exact C8 fun t _=>aW _ _
 rw [this,aZ]
def B2u{f:Nat->Rat}: ∀ (cs:List Nat) (k:Nat) (base:Nat->Rat),(∀ j,base j=0)->(∀ m,k<=m->m<k+cs.length->f m=0)->∀ j,Xe base f k cs j=0:=by
 intro cs
 induction cs with
 | nil=>intro k base a _ j;exact a j
 | cons c cs ih=>
  intro k base a b j
  refine ih (k+1) _ (fun j=>?_) (fun m e d=>b m (by omega) (by rw [cL];omega)) j
  show (if j=c then f k else base j)=0
  split
  ·exact b k (aE _) (by rw [cL];omega)
  ·exact a j
def B7d{E b:Nat->Rat}{rows cols:Nat}(hb:∀ i,i<rows->b i=0)(j:Nat):A39 E b rows cols j=0:=by
 have h:=A38 E b rows cols
 obtain ⟨T,c⟩:=h.comb
 refine B2u _ 0 _ (fun _=>rfl) (fun m _ e=>?_) j
 have a:=h.len
 rw [c m cols (by omega) (by omega)]
 exact T4 fun l d=>by rw [Jx,hb l d,aT]
end Go.Proofs.YtmbfcbbkbefgfaaGreatDoor
namespace Go.Proofs.YtmbfcbbkbefgfaaGreatDoor
set_option maxRecDepth 20000
def B9t{n w c q:Nat}{M P Q:Nat->Nat->Rat}(hc:c<=w)(hM:∀ i j,i<n->j<c->M i j=sm q fun t=>P i t*Q t j):(ecE M n c).cs.length<=q:=by
 refine bG fun p=>?_
 have h:=EqA.run (n:=n) (w:=w) M c hc
 have C:=h.len
 obtain ⟨T,J⟩:=h.comb
 obtain ⟨B,E,_⟩:=h.elim
 have o:=h.lt
 change ¬ (A8d n ⟨M,[],1⟩ c).cs.length<=q at p
 generalize A8d n ⟨M,[],1⟩ c=s at *
 obtain ⟨x,⟨a,b,z⟩,D⟩:=C1t ((List.range q).map fun t m=>Q t (s.cs.getD m 0)) s.cs.length (by rw [dO,List.length_range];omega)
 have r:∀ t,t<q->sm s.cs.length (fun m=>Q t (s.cs.getD m 0)*x m)=0:=fun t k=>D _ (List.mem_map.2 ⟨t,List.mem_range.2 k,rfl⟩)
 have f:∀ m,m<s.cs.length->s.cs.getD m 0<c:=fun m d=>by
  refine o _ ?_
  rw [aJ,aI d]
  exact cZ d
 have y:sm s.cs.length (fun m=>s.R a (s.cs.getD m 0)*x m)=x a:=by
  rw [Ud b fun m d g=>by rw [E.piv a m b d,iN (fun e=>g e.symm),aZ],E.piv a a b b,iP rfl,cW]
 have H:sm s.cs.length (fun m=>s.R a (s.cs.getD m 0)*x m)=sm s.cs.length fun m=>(sm n fun l=>T a l*M l (s.cs.getD m 0))*x m:=C8 fun m d=>by rw [J a _ (by omega) (by have:=f m d;omega)]
 have A:(sm s.cs.length fun m=>(sm n fun l=>T a l*M l (s.cs.getD m 0))*x m)=sm n fun l=>T a l*sm s.cs.length fun m=>M l (s.cs.getD m 0)*x m:=(Uf (fun l=>T a l) (fun l m=>M l (s.cs.getD m 0)) x).symm
 have G:∀ l,l<n->(sm s.cs.length fun m=>M l (s.cs.getD m 0)*x m)=0:=fun l u=>by
  have F:(sm s.cs.length fun m=>M l (s.cs.getD m 0)*x m)=sm s.cs.length fun m=>(sm q fun t=>P l t*Q t (s.cs.getD m 0))*x m:=C8 fun m d=>by rw [hM l _ u (f m d)]
  rw [F,<- Uf (fun t=>P l t) (fun t m=>Q t (s.cs.getD m 0)) x]
  exact T4 fun t k=>by rw [r t k,aT]
 rw [H,A,T4 fun l u=>by rw [G l u,aT]] at y
 exact z y.symm
def prE(m n:Nat)(M:Nat->Nat->Rat)(w:Nat->Rat):Nat->Rat:=fun k=>prP m M w (k/n) (k%n)
def A0l{m n:Nat}(M:Nat->Nat->Rat)(w:Nat->Rat){i j:Nat}(hj:j<n):mtx (prE m n M w) n i j=prP m M w i j:=by
 obtain ⟨b,a⟩:=dm1 (i:=i) hj
 show prP m M w ((i*n+j)/n) ((i*n+j)%n)=_
 rw [b,a]
def B39{m n j:Nat}(M:Nat->Nat->Rat)(w r:Nat->Rat)(hj:j<=n):(elE (L5 (prE m n M w) r n) n (n+1) j).cs.length<=m/\(elE (L5 (prE m n M w) r n) n (n+1) j).cs.length<=n:=by
 refine ⟨B9t (w:=n+1) (P:=M) (Q:=prC M w) (by omega) fun i k a b=>?_,dI (Ee _ n j).1 hj⟩
 rw [Hz _ _ (by omega),A0l M w (by omega)]
 rfl
def C1p{m n j:Nat}(M:Nat->Nat->Rat)(w r:Nat->Rat)(hj:j<=n):(elE (L5 (A2o (prE m n M w) r n n) (B31 n) n) (n+1) (n+1) j).cs.length<=m+1/\(elE (L5 (A2o (prE m n M w) r n n) (B31 n) n) (n+1) (n+1) j).cs.length<=n:=by
 refine ⟨B9t (w:=n+1) (P:=fun i t=>if i<n then (if t<m then prC M w t i else 0) else (if t<m then 0 else 1)) (Q:=fun t k=>if t<m then M k t else r k) (by omega) fun i k c d=>?_,dI (Ee _ (n+1) j).1 hj⟩
 rw [Hz _ _ (by omega)]
 by_cases e:i<n
 ·rw [A8g _ _ e (by omega),A0l M w e]
  have b:(sm (m+1) fun t=>(if i<n then (if t<m then prC M w t i else 0) else (if t<m then 0 else 1))*(if t<m then M k t else r k))=(sm m fun t=>(if i<n then (if t<m then prC M w t i else 0) else (if t<m then 0 else 1))*(if t<m then M k t else r k))+(if i<n then (if m<m then prC M w m i else 0) else (if m<m then 0 else 1))*(if m<m then M k m else r k):=rfl
  rw [b,iP e,iN (aS m),iN (aS m),aZ,bV]
  unfold prP
  exact C8 fun t a=>by rw [iP e,iP a,iP a];exact aW _ _
 ·have:i=n:=by omega
  subst this
  have b:(sm (m+1) fun t=>(if i<i then (if t<m then prC M w t i else 0) else (if t<m then 0 else 1))*(if t<m then M k t else r k))=(sm m fun t=>(if i<i then (if t<m then prC M w t i else 0) else (if t<m then 0 else 1))*(if t<m then M k t else r k))+(if i<i then (if m<m then prC M w m i else 0) else (if m<m then 0 else 1))*(if m<m then M k m else r k):=rfl
  rw [b,A3l,iN e,iN (aS m),iN (aS m),cW,T4 fun t a=>by rw [iN e,iP a,aZ],dA]
section
variable {m n s k Y:Nat} {M:Nat->Nat->Rat} {w b x y:Nat->Rat}
def A8i(hs1:1<=s)(hM:∀ i j,i<n->j<m->Sz s (M i j))(hw:∀ t,t<m->Sz s (w t)):∀ t i,t<m->i<n->Sz (2*s) (prC M w t i):=fun t i a b=>((hM i t b a).div (hw t a) hs1).mono (by omega)
def C46(hs1:1<=s)(hM:∀ i j,i<n->j<m->Sz s (M i j))(hw:∀ t,t<m->Sz s (w t)):∀ i j,i<n->j<n->Sz (1+m*(2*(2*s)+1)) (prP m M w i j):=fun i j b c=>
 A0d (m:=2*s) (w:=m) (f:=fun t=>M i t) (f2:=fun t=>prC M w t j) (fun t a=>(hM i t b a).mono (by omega)) (fun t a=>A8i hs1 hM hw t j a c) m (aE m)
def B9s(hs1:1<=s)(hM:∀ i j,i<n->j<m->Sz s (M i j))(hw:∀ t,t<m->Sz s (w t)):∀ k,k<n*n->Sz (1+m*(2*(2*s)+1)) (prE m n M w k):=fun k b=>by
 have a:k/n<n:=cI b
 exact C46 hs1 hM hw _ _ a (dR k (dG (bL _) a))
def C45(hsk:s<=k)(hM:∀ i j,i<n->j<m->Sz s (M i j))(hb:∀ i,i<n->Sz k (b i))(hx:∀ t,t<m->Sz k (x t)):∀ i,i<n->Sz (1+m*(2*k+1)+k+1) (prR m M b x i):=fun i a=>by
 have d:=A0d (m:=k) (w:=m) (f:=fun t=>M i t) (f2:=x) (fun t c=>(hM i t a c).mono hsk) hx m (aE m)
 exact ((hb i a).sub d).mono (by omega)
def C44(hs1:1<=s)(hsY:2*s<=Y)(hM:∀ i j,i<n->j<m->Sz s (M i j))(hw:∀ t,t<m->Sz s (w t))(hx:∀ t,t<m->Sz k (x t))(hy:∀ j,j<n->Sz Y (y j)):∀ i,i<m->Sz (1+n*(2*Y+1)+k+1) (prZ n M w x y i):=fun i a=>by
 have b:=A0d (m:=Y) (w:=n) (f:=fun j=>prC M w i j) (f2:=y) (fun j c=>(A8i hs1 hM hw i j a c).mono hsY) hy n (aE n)
 exact ((hx i a).add b).mono (by omega)
def B7s{sx se nq:Nat}(hs1:1<=s)(hM:∀ i j,i<n->j<m->Sz s (M i j))(hw:∀ t,t<m->Sz s (w t))(hx:∀ t,t<m->Sz sx (x t))(q0:m<=nq\/n<=nq)(q1:2*s<=se)(q2:1+m*(2*(2*s)+1)<=se)(q3:∀ i,i<n->Sz se (prR m M b x i)):∀ i,i<m->Sz (1+n*(2*(7^nq*se)+1)+sx+1) (prZ n M w x (A39 (prE m n M w) (prR m M b x) n n) i):=by
 have a:=Td (b:=prR m M b x) (fun k c=>(B9s (m:=m) hs1 hM hw k c).mono q2) q3 (by omega) (nq:=nq) (by
  obtain ⟨d,e⟩:=B39 (m:=m) M w (prR m M b x) (aE n)
  rcases q0 with q0|q0
  ·exact dI d q0
  ·exact dI e q0)
 have f:se<=7^nq*se:=eA se (dC (by decide))
 exact C44 hs1 (by omega) hM hw hx fun j _=>a j
end
structure CS where
 p':Int
 r':Int
 p:Int
 r:Int
def CS.next(s:CS)(a:Int):CS:=⟨s.p,s.r,s.p'+a*s.p,s.r'+a*s.r⟩
structure CSI (s:CS) (q x:Rat):Prop where
 det:s.p*s.r'-s.p'*s.r=1\/s.p*s.r'-s.p'*s.r= -1
 eq:q*(s.r*x+s.r')=s.p*x+s.p'
 r0:0<=s.r/\0<=s.r'/\0<s.r+s.r'
