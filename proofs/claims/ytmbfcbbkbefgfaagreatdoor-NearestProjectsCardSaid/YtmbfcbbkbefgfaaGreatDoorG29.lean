/- A part. -/
import Derived.Test.YtmbfcbbkbefgfaaGreatDoorG27
import Derived.Test.YtmbfcbbkbefgfaaGreatDoorG28
open Go.Proofs.Tryz
set_option linter.all false
open _root_.Go.Addr renaming add->aE
open _root_.Go.Addr.mk renaming injEq->aZ
open _root_.Go.Builtin renaming append_->bL
open Classical renaming byContradiction->bK
open _root_.Go.Instr renaming storeAt->aT,buildSlice->cI
open Int renaming toNat_natCast->aH,natCast_mul->aV,natAbs_natCast->dC,gcd->dJ,sign_eq_zero_iff_zero->dL,mul_tdiv_cancel_left->dO,tdiv_eq_ediv_of_dvd->dP
open List renaming length_append->aC,getElem?_eq_getElem->aI,replicate->aO,length_replicate->aP,getD_eq_getElem?_getD->aR,getElem?_append_left->aW,getElem?_append_right->bJ,getElem?_set_ne->bN,getElem?_set_self->bX,length_set->cK,toArray->cP,eq_nil_of_length_eq_zero->cR,getElem?_replicate->cX,append_assoc->dE,take_append_of_le_length->dF,length_map->dI
open List.cons renaming injEq->bF
open Nat renaming mul_le_mul_right->aD,le_refl->aF,add_mul->aK,mul_comm->aL,one_mul->aM,zero_add->aN,lt_irrefl->aS,mul_le_mul->bB,div_eq_of_lt->bH,add_mul_mod_self_right->bI,zero_mul->bM,zero_le->bU,add_mul_div_right->bZ,div_lt_of_lt_mul->cF,mod_eq_of_lt->cH,add_sub_cancel_left->cM,add_comm->cO,pow_le_pow_right->cQ,le_succ_of_le->cU,add_zero->cY,pow_pos->cZ,mul_assoc->dA,le_trans->dD,mul_add_div->dH,mod_lt->dK,add_assoc->dN,pow_zero->dR,pow_succ->dS,le_mul_of_pos_left->dT,lcm->dU
open Option.some renaming injEq->aQ,inj->dG
open Rat renaming mul_comm->aU,mul_zero->aY,intCast_mul->bD,div_def->bO,zero_mul->bV,add_zero->bW,divInt->cD,divInt_eq_div->cN,one_mul->cT,sub_eq_add_neg->dB,mul_assoc->dM,zero_add->dQ
open _root_.Go.Value renaming cells->cL
open _root_.Go.Value.bool renaming injEq->cG
open _root_.Go.Value.int renaming injEq->cJ
open _root_.Go.Value.slice renaming injEq->bC
open _root_.Go renaming Addr->aJ,TypeId->bY,Value->cC,Program->cV
open _root_.Go.Proofs.YtmbfcbbkbefgfaaGreatDoor renaming Heap->aG,FCall->aX,RowV->bG,IsNum->cW
namespace Go.Proofs.YtmbfcbbkbefgfaaGreatDoor
set_option maxRecDepth 20000
def sm:Nat->(Nat->Rat)->Rat
 | 0,_=>0
 | n+1,f=>sm n f+f n
def D6{n:Nat}{f g:Nat->Rat}(h:∀ i,i<n->f i=g i):sm n f=sm n g:=by
 induction n with
 | zero=>rfl
 | succ n ih=>rw [sm,sm,ih (fun i a=>h i (by omega)),h n (by omega)]
def Fx{n:Nat}{f:Nat->Rat}(h:∀ i,i<n->f i=0):sm n f=0:=by
 induction n with
 | zero=>rfl
 | succ n ih=>rw [sm,ih (fun i a=>h i (by omega)),h n (by omega)];exact bW 0
def Uj(n:Nat)(f g:Nat->Rat):sm n (fun i=>f i+g i)=sm n f+sm n g:=by
 induction n with
 | zero=>simp only [sm];exact (bW 0).symm
 | succ n ih=>simp only [sm];rw [ih];grind
def He(n:Nat)(a:Rat)(f:Nat->Rat):sm n (fun i=>a*f i)=a*sm n f:=by
 induction n with
 | zero=>simp only [sm];grind
 | succ n ih=>simp only [sm];rw [ih];grind
def A2w(n:Nat)(f:Nat->Rat):sm n (fun i=> - f i)= - sm n f:=by
 induction n with
 | zero=>simp only [sm];grind
 | succ n ih=>simp only [sm];rw [ih];grind
def A5u(n m:Nat)(f:Nat->Nat->Rat):sm n (fun i=>sm m (f i))=sm m (fun j=>sm n (fun i=>f i j)):=by
 induction n with
 | zero=>rw [sm];exact (Fx fun _ _=>rfl).symm
 | succ n ih=>simp only [sm];rw [ih,<- Uj]
def A2v{n k:Nat}(hk:k<n){f:Nat->Rat}(h:∀ i,i<n->i≠k->f i=0):sm n f=f k:=by
 induction n with
 | zero=>omega
 | succ n ih=>
  rw [sm]
  by_cases e:k=n
  ·subst e;rw [Fx fun i b=>h i (by omega) (by omega)];exact dQ _
  ·rw [ih (by omega) fun i b a=>h i (by omega) a,h n (by omega) (by omega)];exact bW _
def rhx(l i:Nat):Nat:=if i<l then i else i+1
def B2k(l i:Nat):rhx l i≠l:=by unfold rhx;split<;>omega
def A36{l i k:Nat}(hi:i<k):rhx l i<k+1:=by unfold rhx;split<;>omega
def B95{k a:Nat}(ha:a<=k)(t:Nat->Rat):sm k (fun i=>t (rhx a i))=sm (k+1) (fun b=>if b=a then 0 else t b):=by
 induction k generalizing a with
 | zero=>
  show (0:Rat)=0+(if 0=a then 0 else t 0)
  rw [iP (by omega)];exact (bW 0).symm
 | succ k ih=>
  show sm k (fun i=>t (rhx a i))+t (rhx a k)=sm (k+1) (fun b=>if b=a then 0 else t b)+(if k+1=a then 0 else t (k+1))
  by_cases e:a=k+1
  ·rw [iP e.symm,bW]
   show sm k (fun i=>t (rhx a i))+t (rhx a k)=sm k (fun b=>if b=a then 0 else t b)+(if k=a then 0 else t k)
   rw [iN (by omega)]
   congr 1
   ·exact D6 fun i c=>by rw [rhx,iP (by omega),iN (by omega)]
   ·rw [rhx,iP (by omega)]
  ·rw [ih (by omega),iN (fun x=>e x.symm)]
   congr 1
   rw [rhx,iN (by omega)]
def sg(n:Nat):Rat:=if n%2=0 then 1 else -1
def dt:Nat->(Nat->Nat->Rat)->Rat
 | 0,_=>1
 | k+1,X=>sm (k+1) fun l=>sg (k+l)*X k l*dt k (fun c r=>X c (rhx l r))
def W6{k:Nat}: ∀ {X Y:Nat->Nat->Rat},(∀ c r,c<k->r<k->X c r=Y c r)->dt k X=dt k Y:=by
 induction k with
 | zero=>intros;rfl
 | succ k ih=>
  intro X Y h
  rw [dt,dt]
  refine D6 fun l b=>?_
  rw [h k l (by omega) b,ih fun c r d a=>h c (rhx l r) (by omega) (A36 a)]
def rc(X:Nat->Nat->Rat)(m:Nat)(y:Nat->Rat):Nat->Nat->Rat:=fun c r=>if c=m then y r else X c r
def Gb(X:Nat->Nat->Rat)(m:Nat)(y:Nat->Rat)(l:Nat):(fun c r=>rc X m y c (rhx l r))=rc (fun c r=>X c (rhx l r)) m (fun r=>y (rhx l r)):=by
 funext c r;unfold rc;split<;>rfl
def A44{k:Nat}: ∀ (X:Nat->Nat->Rat) {m:Nat} (_:m<k) (y z:Nat->Rat),dt k (rc X m fun r=>y r+z r)=dt k (rc X m y)+dt k (rc X m z):=by
 induction k with
 | zero=>intros;omega
 | succ k ih=>
  intro X m d y z
  rw [dt,dt,dt,<- Uj]
  refine D6 fun l b=>?_
  by_cases e:m=k
  ·subst e
   have:∀ u:Nat->Rat,dt m (fun c r=>rc X m u c (rhx l r))=dt m (fun c r=>X c (rhx l r)):=fun u=>W6 fun c r a _=>by rw [rc,iN (by omega)]
   rw [this,this,this]
   simp only [rc,if_true]
   grind
  ·rw [Gb,Gb,Gb,ih _ (by omega)]
   simp only [rc,iN (fun x:k=m=>e x.symm)]
   grind
def B47{k:Nat}: ∀ (X:Nat->Nat->Rat) {m:Nat} (_:m<k) (a:Rat) (y:Nat->Rat),dt k (rc X m fun r=>a*y r)=a*dt k (rc X m y):=by
 induction k with
 | zero=>intros;omega
 | succ k ih=>
  intro X m f a y
  rw [dt,dt,<- He]
  refine D6 fun l d=>?_
  by_cases e:m=k
  ·subst e
   have:∀ u:Nat->Rat,dt m (fun c r=>rc X m u c (rhx l r))=dt m (fun c r=>X c (rhx l r)):=fun u=>W6 fun c r b _=>by rw [rc,iN (by omega)]
   rw [this,this]
   simp only [rc,if_true]
   grind
  ·rw [Gb,Gb,ih _ (by omega)]
   simp only [rc,iN (fun x:k=m=>e x.symm)]
   grind
def C1n{k:Nat}(X:Nat->Nat->Rat){m:Nat}(hm:m<k):dt k (rc X m fun _=>0)=0:=by
 have:=B47 X hm 0 (fun _=>0)
 rw [bV] at this
 simpa only [bV] using this
def B9k{k:Nat}(X:Nat->Nat->Rat){m:Nat}(hm:m<k)(a:Nat->Rat)(Y:Nat->Nat->Rat):∀ n,dt k (rc X m fun r=>sm n fun t=>a t*Y t r)=sm n fun t=>a t*dt k (rc X m (Y t)):=by
 intro n
 induction n with
 | zero=>exact C1n X hm
 | succ n ih=>
  simp only [sm]
  rw [A44 X hm,ih,B47 X hm]
def A64(X:Nat->Nat->Rat)(m:Nat):rc X m (X m)=X:=by
 funext c r;unfold rc;split
 ·rename_i e;rw [e]
 ·rfl
def A8u{k:Nat}(X:Nat->Nat->Rat)(h:∀ r,r<k+2->X k r=X (k+1) r):dt (k+2) X=0:=by
 let mn:Nat->Nat->Rat:=fun a b=>dt k (fun c r=>X c (if a<b then rhx a (rhx (b-1) r) else rhx b (rhx (a-1) r)))
 let G:Nat->Nat->Rat:=fun a b=>if a=b then 0 else if b<a then sg (a+b)*X (k+1) a*X (k+1) b*mn a b else-(sg (a+b)*X (k+1) a*X (k+1) b*mn a b)
 have m:∀ a b,mn a b=mn b a:=by
  intro a b
  show dt k _=dt k _
  refine W6 fun c r _ _=>?_
  by_cases d:a<b
  ·rw [iP d,iN (by omega)]
  ·by_cases n:b<a
   ·rw [iN d,iP n]
   ·have:a=b:=by omega
    subst this;rfl
 have p:∀ a b,G b a= - G a b:=by
  intro a b
  show (if b=a then 0 else if a<b then _ else _)= - (if a=b then 0 else if b<a then _ else _)
  by_cases e:a=b
  ·rw [iP e,iP e.symm];grind
  ·rw [iN e,iN (fun x=>e x.symm)]
   have u:=m a b
   by_cases d:a<b
   ·rw [iP d,iN (by omega),cO b a];grind
   ·rw [iN d,iP (by omega),cO b a];grind
 have f:dt (k+2) X=sm (k+2) fun a=>sm (k+2) fun b=>G a b*sg (k+1+k):=by
  rw [dt]
  refine D6 fun a t=>?_
  have s:(fun b=>G a b*sg (k+1+k))=(fun b=>if b=a then 0 else (fun b=>G a b*sg (k+1+k)) b):=by
   funext b
   by_cases e:b=a
   ·subst e;rw [iP rfl];show (if b=b then 0 else _)*_=_;rw [iP rfl];grind
   ·rw [iN e]
  rw [s,<- B95 (by omega) (fun b=>G a b*sg (k+1+k)),dt,<- He]
  refine D6 fun i o=>?_
  have l:X k (rhx a i)=X (k+1) (rhx a i):=h _ (A36 o)
  have j:dt k (fun c r=>X c (rhx a (rhx i r)))=mn a (rhx a i):=by
   show _=dt k _
   refine W6 fun c r _ _=>?_
   by_cases d:i<a
   ·have g:rhx a i=i:=by rw [rhx,iP d]
    rw [g,iN (by omega)]
    congr 1
    simp only [rhx]
    repeat' split
    all_goals omega
   ·have g:rhx a i=i+1:=by rw [rhx,iN d]
    rw [g,iP (by omega),Nat.add_sub_cancel]
  rw [l,j]
  show _=(if a=rhx a i then 0 else if rhx a i<a then _ else _)*_
  rw [iN (fun e=>B2k a i e.symm)]
  have w:∀ x y:Nat,x%2=y%2->sg x=sg y:=fun x y e=>by unfold sg;rw [e]
  by_cases d:i<a
  ·have g:rhx a i=i:=by rw [rhx,iP d]
   rw [g,iP d]
   have q:sg (k+1+a)*sg (k+i)=sg (a+i)*sg (k+1+k):=by
    unfold sg
    repeat' split
    all_goals first|omega|grind
   grind
  ·have g:rhx a i=i+1:=by rw [rhx,iN d]
   rw [g,iN (by omega)]
   have q:sg (k+1+a)*sg (k+i)= - sg (a+(i+1))*sg (k+1+k):=by
    unfold sg
    repeat' split
    all_goals first|omega|grind
   grind
 have n:dt (k+2) X= - dt (k+2) X:=by
  have:dt (k+2) X=sm (k+2) fun a=>sm (k+2) fun b=>G b a*sg (k+1+k):=by
   rw [f];exact A5u _ _ _
  refine this.trans ?_
  rw [f,<- A2w]
  refine D6 fun a _=>?_
  rw [<- A2w]
  exact D6 fun b _=>by rw [p];grind
 grind
def C1p:∀ {k:Nat} (X:Nat->Nat->Rat) {p q:Nat} (_:p<q) (_:q<k) (_:∀ r,r<k->X p r=X q r),dt k X=0:=by
 intro k
 induction k with
 | zero=>intros;omega
 | succ k ih=>
  intro X p q i x h
  by_cases e:q=k
  ·subst e
   by_cases n:p+1=q
   ·subst n
    exact A8u X h
   ·
    obtain ⟨k',rfl⟩:∃ k',q=k'+1:=⟨q-1,by omega⟩
    have o:p<k':=by omega
    have swap:∀ (Z:Nat->Nat->Rat),dt (k'+1) (rc (rc Z p (Z k')) k' (Z p))= - dt (k'+1) Z:=by
     intro Z
     have g:∀ y:Nat->Rat,dt (k'+1) (rc (rc Z p y) k' y)=0:=fun y=>ih _ o (by omega) fun r _=>by
      unfold rc;rw [iN (by omega),iP rfl,iP rfl]
     have comm:∀ y z:Nat->Rat,rc (rc Z p y) k' z=rc (rc Z k' z) p y:=by
      intro y z;funext c r;unfold rc
      by_cases d:c=k'
      ·by_cases a:c=p
       ·omega
       ·rw [iP d,iN a,iP d]
      ·by_cases a:c=p
       ·rw [iN d,iP a,iP a]
       ·rw [iN d,iN a,iN a,iN d]
     have b:=g (fun r=>Z p r+Z k' r)
     rw [A44 _ (by omega)] at b
     rw [comm _ (Z p),comm _ (Z k'),A44 _ (by omega),A44 _ (by omega)] at b
     rw [<- comm,<- comm,<- comm,<- comm] at b
     rw [g (Z p),g (Z k')] at b
     have u:rc (rc Z p (Z p)) k' (Z k')=Z:=by rw [A64,A64]
     rw [u] at b
     grind
    have m:dt (k'+1+1) X= - dt (k'+1+1) (rc (rc X p (X k')) k' (X p)):=by
     rw [dt,dt,<- A2w]
     refine D6 fun l _=>?_
     have t:rc (rc X p (X k')) k' (X p) (k'+1) l=X (k'+1) l:=by unfold rc;rw [iN (by omega),iN (by omega)]
     have w:(fun c r=>rc (rc X p (X k')) k' (X p) c (rhx l r))=rc (rc (fun c r=>X c (rhx l r)) p (fun r=>X k' (rhx l r))) k' (fun r=>X p (rhx l r)):=by
      rw [Gb,Gb]
     have:=swap (fun c r=>X c (rhx l r))
     rw [t,w,this]
     grind
    rw [m,A8u _ fun r f=>?_]
    ·grind
    ·have s:rc (rc X p (X k')) k' (X p) k' r=X p r:=by unfold rc;rw [iP rfl]
     have j:rc (rc X p (X k')) k' (X p) (k'+1) r=X (k'+1) r:=by unfold rc;rw [iN (by omega),iN (by omega)]
     rw [s,j];exact h r f
  ·rw [dt]
   refine Fx fun l _=>?_
   rw [ih _ i (by omega) fun r f=>h (rhx l r) (A36 f)]
   grind
def C1o{k:Nat}(X:Nat->Nat->Rat)(h:∀ r,r<k->X k r=0):dt (k+1) X=X k k*dt k X:=by
 rw [dt,A2v (k:=k) (by omega) fun i e d=>by rw [h i (by omega)];grind]
 have:dt k (fun c r=>X c (rhx k r))=dt k X:=W6 fun c r _ a=>by rw [rhx,iP a]
 have b:sg (k+k)=1:=by unfold sg;rw [iP (by omega)]
 rw [this,b,cT]
def Wh(q:Rat):Prop:=∃ z:Int,q=(z:Rat)
def Wh.add{p q:Rat}(hp:Wh p)(hq:Wh q):Wh (p+q):=by
 obtain ⟨a,rfl⟩:=hp;obtain ⟨b,rfl⟩:=hq
 exact ⟨a+b,by rw [Rat.intCast_add]⟩
def Wh.mul{p q:Rat}(hp:Wh p)(hq:Wh q):Wh (p*q):=by
 obtain ⟨a,rfl⟩:=hp;obtain ⟨b,rfl⟩:=hq
 exact ⟨a*b,by rw [bD]⟩
def Wh.sg(n:Nat):Wh (sg n):=by
 unfold Go.Proofs.YtmbfcbbkbefgfaaGreatDoor.sg
 split
 ·exact ⟨1,rfl⟩
 ·exact ⟨-1,by decide +kernel⟩
def Wh.sm{n:Nat}{f:Nat->Rat}(h:∀ i,i<n->Wh (f i)):Wh (sm n f):=by
 induction n with
 | zero=>exact ⟨0,rfl⟩
 | succ n ih=>exact (ih fun i a=>h i (by omega)).add (h n (by omega))
def C40{k:Nat}: ∀ {X:Nat->Nat->Rat},(∀ c r,c<k->r<k->Wh (X c r))->Wh (dt k X):=by
 induction k with
 | zero=>intro X _;exact ⟨1,rfl⟩
 | succ k ih=>
  intro X h
  rw [dt]
  refine Wh.sm fun l b=>?_
  exact ((Wh.sg _).mul (h k l (by omega) b)).mul (ih fun c r d a=>h c _ (by omega) (A36 a))
structure Elim (n w:Nat) (B R:Nat->Nat->Rat) (cs:Nat->Nat) (k:Nat):Prop where
 kn:k<=n
 cw:∀ m,m<k->cs m<w
 piv:∀ l m,l<k->m<k->R l (cs m)=if l=m then 1 else 0
 low:∀ i m,i<n->k<=i->m<k->R i (cs m)=0
 top:∀ l j,l<k->j<w->B l j=sm k fun m=>B l (cs m)*R m j
 bot:∀ i j,i<n->k<=i->j<w->B i j=R i j+sm k fun m=>B i (cs m)*R m j
def dp(B:Nat->Nat->Rat)(cs:Nat->Nat)(k:Nat):Rat:=dt k fun c r=>B r (cs c)
section
variable {n w:Nat} {B R:Nat->Nat->Rat} {cs:Nat->Nat} {k:Nat}
def Elim.below(E:Elim n w B R cs k){i j:Nat}(hi:i<n)(hk:k<=i)(hj:j<w):dp B cs k*R i j=dt (k+1) fun c r=>B (if r<k then r else i) (if c<k then cs c else j):=by
 have d:(fun c r=>B (if r<k then r else i) (if c<k then cs c else j))=rc (fun c r=>B (if r<k then r else i) (cs c)) k (fun r=>B (if r<k then r else i) j)\/True:=.inr trivial
 clear d
 let X:Nat->Nat->Rat:=fun c r=>B (if r<k then r else i) (cs c)
 have l:dt (k+1) (fun c r=>B (if r<k then r else i) (if c<k then cs c else j))=dt (k+1) (rc X k fun r=>(sm k fun t=>R t j*X t r)+(if r<k then 0 else R i j)):=by
  refine W6 fun c r f b=>?_
  unfold rc
  by_cases h:c=k
  ·subst h
   rw [iN (aS c),iP rfl]
   show _=(sm c fun t=>R t j*X t r)+(if r<c then 0 else R i j)
   by_cases a:r<c
   ·rw [iP a,iP a,bW,E.top r j a hj]
    refine D6 fun m _=>?_
    show _=_*B (if r<c then r else i) (cs m)
    rw [iP a,aU]
   ·rw [iN a,iN a,E.bot i j hi hk hj,Rat.add_comm]
    congr 1
    refine D6 fun m _=>?_
    show _=_*B (if r<c then r else i) (cs m)
    rw [iN a,aU]
  ·rw [iN h,iP (show c<k by omega)]
 rw [l,A44 _ (by omega),B9k X (by omega) (fun t=>R t j) X]
 rw [Fx fun t g=>by
  rw [C1p (rc X k (X t)) (p:=t) (q:=k) g (by omega) fun r _=>by unfold rc;rw [iN (by omega),iP rfl]]
  exact aY _]
 rw [C1o _ fun r b=>by unfold rc;rw [iP rfl];show (if r<k then 0 else R i j)=0;rw [iP b]]
 have e:dt k (rc X k fun r=>if r<k then 0 else R i j)=dp B cs k:=by
  refine W6 fun c r f b=>?_
  unfold rc
  rw [iN (by omega)]
  show B (if r<k then r else i) (cs c)=_
  rw [iP b]
 rw [e]
 unfold rc
 rw [iP rfl]
 show _=0+(if k<k then 0 else R i j)*_
 rw [iN (aS k)]
 grind
def Elim.above(E:Elim n w B R cs k){i j:Nat}(hi:i<k)(hj:j<w):dp B cs k*R i j=dt k (rc (fun c r=>B r (cs c)) i fun r=>B r j):=by
 let X:Nat->Nat->Rat:=fun c r=>B r (cs c)
 have d:dt k (rc X i fun r=>B r j)=dt k (rc X i fun r=>sm k fun t=>R t j*X t r):=by
  refine W6 fun c r f a=>?_
  unfold rc
  split
  ·show B r j=sm k fun t=>R t j*X t r
   rw [E.top r j a hj]
   exact D6 fun m _=>aU _ _
  ·rfl
 show _=dt k (rc X i fun r=>B r j)
 rw [d,B9k X hi (fun t=>R t j) X,A2v (k:=i) hi fun t b e=>?_]
 ·rw [A64,aU];rfl
 ·rcases Nat.lt_or_ge t i with h|h
  ·rw [C1p (rc X i (X t)) (p:=t) (q:=i) h hi fun r _=>by unfold rc;rw [iN (by omega),iP rfl]]
   exact aY _
  ·rw [C1p (rc X i (X t)) (p:=i) (q:=t) (by omega) b fun r _=>by unfold rc;rw [iP rfl,iN (by omega)]]
   exact aY _
def Elim.whole(E:Elim n w B R cs k)(hB:∀ i j,i<n->j<w->Wh (B i j)){i j:Nat}(hi:i<n)(hj:j<w):Wh (dp B cs k*R i j):=by
 by_cases h:i<k
 ·rw [E.above h hj]
  refine C40 fun c r a b=>?_
  have:=E.kn
  unfold rc
  split
  ·exact hB r j (by omega) hj
  ·exact hB r _ (by omega) (E.cw c a)
 ·rw [E.below hi (by omega) hj]
  refine C40 fun c r a b=>?_
  refine hB _ _ ?_ ?_
  ·split<;>omega
  ·split
   ·exact E.cw c (by assumption)
   ·exact hj
def Elim.next(E:Elim n w B R cs k){j:Nat}(hk:k<n)(hj:j<w)(hc:cs k=j):dp B cs (k+1)=dp B cs k*R k j:=by
 rw [E.below hk (aF _) hj]
 refine W6 fun c r b e=>?_
 have a:(if r<k then r else k)=r:=by split<;>omega
 have d:(if c<k then cs c else j)=cs c:=by
  split
  ·rfl
  ·have:c=k:=by omega
   rw [this,hc]
 rw [a,d]
def Bz(R:Nat->Nat->Rat)(k j:Nat):Nat->Nat->Rat:=fun a b=>if a=k then R k b/R k j else R a b-R a j*(R k b/R k j)
def Elim.step(E:Elim n w B R cs k){j:Nat}(hk:k<n)(hj:j<w)(hc:cs k=j)(hne:R k j≠0):Elim n w B (Bz R k j) cs (k+1):=by
 have d:∀ m,m<k->R k (cs m)=0:=fun m o=>E.low k m hk (aF _) o
 have f:R k j/R k j=1:=by grind
 refine ⟨by omega,fun m o=>?_,fun l m z o=>?_,fun i m p s o=>?_,fun l b z q=>?_,fun i b p s q=>?_⟩
 ·by_cases e:m=k
  ·rw [e,hc];exact hj
  ·exact E.cw m (by omega)
 ·unfold Bz
  by_cases t:m=k
  ·subst t
   rw [hc]
   by_cases c:l=m
   ·rw [iP c,iP c];exact f
   ·rw [iN c,iN c,f];grind
  ·have a:m<k:=by omega
   rw [d m a]
   by_cases c:l=k
   ·subst c
    rw [iP rfl,iN (by omega)];grind
   ·rw [iN c,E.piv l m (by omega) a]
    grind
 ·unfold Bz
  rw [iN (by omega)]
  by_cases t:m=k
  ·subst t
   rw [hc,f];grind
  ·have a:m<k:=by omega
   rw [d m a,E.low i m p (by omega) a]
   grind
 ·rw [sm]
  have u:(Bz R k j) k b=R k b/R k j:=by unfold Bz;rw [iP rfl]
  have r:sm k (fun m=>B l (cs m)*Bz R k j m b)=sm k (fun m=>B l (cs m)*R m b)-sm k (fun m=>B l (cs m)*R m j)*(R k b/R k j):=by
   have:(fun m=>B l (cs m)*Bz R k j m b)=fun m=>if m=k then B l (cs k)*(R k b/R k j) else B l (cs m)*R m b+(-(R k b/R k j))*(B l (cs m)*R m j):=by
    funext m
    unfold Bz
    by_cases e:m=k
    ·rw [iP e,iP e,e]
    ·rw [iN e,iN e];grind
   rw [this,D6 (g:=fun m=>B l (cs m)*R m b+(-(R k b/R k j))*(B l (cs m)*R m j)) fun m o=>by rw [iN (by omega)]]
   rw [Uj,He];grind
  rw [u,r,hc]
  by_cases c:l=k
  ·subst c
   have y:=E.bot l b hk (aF _) q
   have x:=E.bot l j hk (aF _) hj
   grind
  ·have y:=E.top l b (by omega) q
   have x:=E.top l j (by omega) hj
   grind
 ·rw [sm]
  have u:(Bz R k j) k b=R k b/R k j:=by unfold Bz;rw [iP rfl]
  have r:sm k (fun m=>B i (cs m)*Bz R k j m b)=sm k (fun m=>B i (cs m)*R m b)-sm k (fun m=>B i (cs m)*R m j)*(R k b/R k j):=by
   have:(fun m=>B i (cs m)*Bz R k j m b)=fun m=>if m=k then B i (cs k)*(R k b/R k j) else B i (cs m)*R m b+(-(R k b/R k j))*(B i (cs m)*R m j):=by
    funext m
    unfold Bz
    by_cases e:m=k
    ·rw [iP e,iP e,e]
    ·rw [iN e,iN e];grind
   rw [this,D6 (g:=fun m=>B i (cs m)*R m b+(-(R k b/R k j))*(B i (cs m)*R m j)) fun m o=>by rw [iN (by omega)]]
   rw [Uj,He];grind
  have A:Bz R k j i b=R i b-R i j*(R k b/R k j):=by unfold Bz;rw [iN (by omega)]
  have y:=E.bot i b p (by omega) q
  have x:=E.bot i j p (by omega) hj
  rw [u,r,A,hc]
  grind
def xch(k l:Nat)(i:Nat):Nat:=if i=k then l else if i=l then k else i
def Elim.swap(E:Elim n w B R cs k){l:Nat}(hk:k<=l)(hl:l<n):Elim n w (fun i=>B (xch k l i)) (fun i=>R (xch k l i)) cs k:=by
 have f:∀ i,i<k->xch k l i=i:=fun i e=>by unfold xch;rw [iN (by omega),iN (by omega)]
 have o:∀ i,i<n->k<=i->xch k l i<n/\k<=xch k l i:=fun i q p=>by unfold xch;split<;>(try split)<;>omega
 refine ⟨E.kn,E.cw,fun a m d b=>?_,fun i m e c b=>?_,fun a j d g=>?_,fun i j e c g=>?_⟩
 ·show R (xch k l a) _=_
  rw [f a d];exact E.piv a m d b
 ·have:=o i e c
  exact E.low _ m this.1 this.2 b
 ·show B (xch k l a) j=sm k fun m=>B (xch k l a) (cs m)*R (xch k l m) j
  rw [f a d,E.top a j d g]
  exact D6 fun m b=>by rw [f m b]
 ·have:=o i e c
  show B (xch k l i) j=R (xch k l i) j+sm k fun m=>B (xch k l i) (cs m)*R (xch k l m) j
  rw [E.bot _ j this.1 this.2 g]
  congr 1
  exact D6 fun m b=>by rw [f m b]
def C1q(B:Nat->Nat->Rat)(cs:Nat->Nat){k l:Nat}(hk:k<=l):dp (fun i=>B (xch k l i)) cs k=dp B cs k:=by
 refine W6 fun c r _ a=>?_
 show B (xch k l r) _=_
 unfold xch;rw [iN (by omega),iN (by omega)]
def Elim.start:Elim n w B B cs 0:=by
 refine ⟨bU _,fun m a=>by omega,fun l m b=>by omega,fun i m _ _ a=>by omega,fun l j b=>by omega,fun i j _ _ _=>by rw [sm,bW]⟩
def Elim.cs_congr{cs':Nat->Nat}(E:Elim n w B R cs k)(h:∀ m,m<k->cs m=cs' m):Elim n w B R cs' k:=by
 refine ⟨E.kn,fun m a=>by rw [<- h m a];exact E.cw m a,fun l m c a=>by rw [<- h m a];exact E.piv l m c a,fun i m d b a=>by rw [<- h m a];exact E.low i m d b a,fun l j c e=>?_,fun i j d b e=>?_⟩
 ·rw [E.top l j c e];exact D6 fun m a=>by rw [h m a]
 ·rw [E.bot i j d b e];congr 1;exact D6 fun m a=>by rw [h m a]
def B7r{cs':Nat->Nat}(h:∀ m,m<k->cs m=cs' m):dp B cs k=dp B cs' k:=W6 fun c r a _=>by rw [h c a]
end
end Go.Proofs.YtmbfcbbkbefgfaaGreatDoor
namespace Go.Proofs.YtmbfcbbkbefgfaaGreatDoor
set_option maxRecDepth 20000
def fnd(p:Nat->Bool):Nat->Nat->Nat
 | 0,i=>i
 | f+1,i=>bif p i then i else fnd p f (i+1)
def A3v(p:Nat->Bool):∀ f i,i<=fnd p f i/\fnd p f i<=i+f:=by
 intro f
 induction f with
 | zero=>intro i;simp [fnd]
 | succ f ih=>
  intro i
  unfold fnd
  cases p i with
  | true=>simp
  | false=>have:=ih (i+1);simp only [cond_false];omega
def A0q(p:Nat->Bool):∀ f i,fnd p f i<i+f->p (fnd p f i)=true:=by
 intro f
 induction f with
 | zero=>intro i h;simp [fnd] at h
 | succ f ih=>
  intro i h
  unfold fnd at h ⊢
  cases hp:p i with
  | true=>simp only [hp,cond_true]
  | false=>simp only [hp,cond_false] at h ⊢;exact ih (i+1) (by omega)
def Tk(p:Nat->Bool):∀ f i j,i<=j->j<fnd p f i->p j=false:=by
 intro f
 induction f with
 | zero=>intro i j b a;simp [fnd] at a;omega
 | succ f ih=>
  intro i j b a
  unfold fnd at a
  cases hp:p i with
  | true=>simp only [hp,cond_true] at a;omega
  | false=>
   simp only [hp,cond_false] at a
   by_cases e:j=i
   ·rw [e];exact hp
   ·exact ih (i+1) j (by omega) a
def B3l{p q:Nat->Bool}: ∀ f i,(∀ j,i<=j->j<i+f->p j=q j)->fnd p f i=fnd q f i:=by
 intro f
 induction f with
 | zero=>intros;rfl
 | succ f ih=>
  intro i h
  unfold fnd
  rw [h i (by omega) (by omega),ih (i+1) fun j a b=>h j (by omega) (by omega)]
def B3k(p:Nat->Bool){f i k:Nat}(h1:i<=k)(h2:k<=i+f)(h3:∀ j,i<=j->j<k->p j=false)(h4:k<i+f->p k=true):fnd p f i=k:=by
 have a:=A3v p f i
 rcases Nat.lt_trichotomy (fnd p f i) k with h|h|h
 ·have:=A0q p f i (by omega);rw [h3 _ a.1 h] at this;cases this
 ·exact h
 ·have:=Tk p f i k h1 h;rw [h4 (by omega)] at this;cases this
structure ES where
 R:Nat->Nat->Rat
 cs:List Nat
 det:Rat
def elimE(R:Nat->Nat->Rat)(k j:Nat):Nat->Nat->Rat:=fun a b=>if a=k then R k b/R k j else if R a j=0\/b<j then R a b else R a b-R a j*(R k b/R k j)
def Hq(n c:Nat)(s:ES):Nat:=fnd (fun i=>decide (s.R i c≠0)) (n-s.cs.length) s.cs.length
def Fv(n c:Nat)(s:ES):ES:=
 if s.cs.length<n then
  if Hq n c s<n then
   { R:=elimE (fun i=>s.R (xch s.cs.length (Hq n c s) i)) s.cs.length c
     cs:=s.cs++[c]
     det:=(if Hq n c s=s.cs.length then s.det else-s.det)*s.R (Hq n c s) c }
  else { s with det:=0 }
 else s
def A86(n:Nat)(s:ES):Nat->ES
 | 0=>s
 | c+1=>Fv n c (A86 n s c)
structure PS where
 M:Nat->Nat->Int
 S:Nat->Rat
 cs:List Nat
 last:Int
 sgn:Int
def clr(M:Nat->Nat->Int)(r c:Nat)(d:Int):Nat->Nat->Int:=fun a b=>if a=r then M r b else (M r c*M a b-M a c*M r b).tdiv d
def Ul(n c:Nat)(s:PS):Nat:=fnd (fun i=>decide (s.M i c≠0)) (n-s.cs.length) s.cs.length
def Ie(n c:Nat)(s:PS):PS:=
 if Ul n c s<n then
  { M:=clr (fun i=>s.M (xch s.cs.length (Ul n c s) i)) s.cs.length c s.last
    S:=fun i=>s.S (xch s.cs.length (Ul n c s) i)
    cs:=s.cs++[c]
    last:=s.M (Ul n c s) c
    sgn:=if Ul n c s=s.cs.length then s.sgn else-s.sgn }
 else s
def Cs(n:Nat)(s:PS):Nat->PS
 | 0=>s
 | c+1=>Ie n c (Cs n s c)
def pr:Nat->(Nat->Rat)->Rat
 | 0,_=>1
 | n+1,f=>pr n f*f n
def B79{n:Nat}{f g:Nat->Rat}(h:∀ i,i<n->f i=g i):pr n f=pr n g:=by
 induction n with
 | zero=>rfl
 | succ n ih=>rw [pr,pr,ih (fun i a=>h i (by omega)),h n (by omega)]
def Tg(k l:Nat):xch k l k=l:=by unfold xch;rw [iP rfl]
def Rp{k l i n:Nat}(hk:k<n)(hl:l<n)(hi:i<n):xch k l i<n:=by unfold xch;split<;>(try split)<;>omega
def B1h{k l i:Nat}(hkl:k<=l)(hi:k<=i):k<=xch k l i:=by unfold xch;split<;>(try split)<;>omega
def A2c{k l i:Nat}(hkl:k<=l)(hi:i<k):xch k l i=i:=by unfold xch;rw [iN (by omega),iN (by omega)]
def A5r{x d z:Int}(hd:d≠0)(h:x=d*z):x.tdiv d=z:=by
 rw [h,dO _ hd]
structure ERel (n w c:Nat) (A:Nat->Nat->Rat) (s:ES) (t:PS):Prop where
 cs:s.cs=t.cs
 elim:∃ B,(∀ i j,i<n->j<w->Wh (B i j))/\Elim n w B (fun i j=>if i<s.cs.length then s.R i j else t.S i*s.R i j) (fun m=>s.cs.getD m 0) s.cs.length/\(t.last:Rat)=dp B (fun m=>s.cs.getD m 0) s.cs.length
 last:t.last≠0
 val:∀ i j,i<n->j<w->(t.M i j:Rat)=t.last*(if i<s.cs.length then s.R i j else t.S i*s.R i j)
 scale:∀ i,i<n->t.S i≠0
 zero:∀ i j,i<n->s.cs.length<=i->j<c->s.R i j=0
 asc:s.cs.length<=c
 det:s.cs.length=c->s.det*pr s.cs.length t.S=t.sgn*t.last
 miss:s.cs.length<c->s.cs.length<n->s.det=0
 sgn:t.sgn=1\/t.sgn= -1
def X6{z:Int}(h:z≠0):(z:Rat)≠0:=by
 intro e
 exact h (by exact_mod_cast e)
def ERel.start{n w:Nat}{A:Nat->Nat->Rat}{M:Nat->Nat->Int}{S:Nat->Rat}(h:∀ i j,i<n->j<w->(M i j:Rat)=S i*A i j)(hS:∀ i,i<n->S i≠0):ERel n w 0 A ⟨A,[],1⟩ ⟨M,S,[],1,1⟩:=by
 have e:∀ (x:Rat),((1:Int):Rat)*x=x:=fun x=>by
  have:((1:Int):Rat)=1:=rfl
  rw [this,cT]
 refine ⟨rfl,⟨fun i j=>S i*A i j,fun i j b a=>⟨M i j,(h i j b a).symm⟩,?_,rfl⟩,(by decide:(1:Int)≠0),fun i j b a=>?_,hS,fun i j _ _ a=>by omega,aF _,fun _=>?_,fun h=>by simp at h,.inl rfl⟩
 ·have:(fun i j=>if i<([]:List Nat).length then A i j else S i*A i j)=fun i j=>S i*A i j:=by
   funext i j;rw [iN (by simp)]
  show Elim n w _ (fun i j=>if i<([]:List Nat).length then A i j else S i*A i j) _ 0
  rw [this]
  exact Elim.start
 ·show (M i j:Rat)=((1:Int):Rat)*(if i<([]:List Nat).length then A i j else S i*A i j)
  rw [e,iN (by simp),h i j b a]
 ·show (1:Rat)*pr 0 S=((1:Int):Rat)*((1:Int):Rat)
  rw [e]
  exact cT _
def A3q(l:List Nat)(c:Nat):∀ m,m<l.length->(l++[c]).getD m 0=l.getD m 0:=by
 intro m a
 rw [aR,aR,aW a]
def A3r(l:List Nat)(c:Nat):(l++[c]).getD l.length 0=c:=by
 rw [aR,bJ (aF _)];simp
def ERel.row{n w c:Nat}{A:Nat->Nat->Rat}{s:ES}{t:PS}(h:ERel n w c A s t)(hc:c<w):Ul n c t=Hq n c s:=by
 unfold Ul Hq
 rw [<- h.cs]
 refine B3l _ _ fun j l k=>?_
 have a:=h.val j c (by omega) hc
 rw [iN (by omega)] at a
 have g:=X6 h.last
 have i:=h.scale j (by omega)
 refine decide_eq_decide.2 (not_congr ⟨fun e=>?_,fun e=>?_⟩)
 ·rw [e] at a
  have f:((0:Int):Rat)=0:=rfl
  rw [f] at a
  rcases Rat.mul_eq_zero.1 a.symm with d|d
  ·exact absurd d g
  ·rcases Rat.mul_eq_zero.1 d with b|b
   ·exact absurd b i
   ·exact b
 ·rw [e,aY,aY] at a
  exact_mod_cast a
def ERel.step{n w c:Nat}{A:Nat->Nat->Rat}{s:ES}{t:PS}(h:ERel n w c A s t)(hc:c<w):ERel n w (c+1) A (Fv n c s) (Ie n c t):=by
 have X:=h.row hc
 have a:=A3v (fun i=>decide (s.R i c≠0)) (n-s.cs.length) s.cs.length
 have D:=Tk (fun i=>decide (s.R i c≠0)) (n-s.cs.length) s.cs.length
 have L:=A0q (fun i=>decide (s.R i c≠0)) (n-s.cs.length) s.cs.length
 have hR:fnd (fun i=>decide (s.R i c≠0)) (n-s.cs.length) s.cs.length=Hq n c s:=rfl
 rw [hR] at a D L
 obtain ⟨B,hB,E,hD⟩:=h.elim
 unfold Fv Ie
 rw [X]
 by_cases C:Hq n c s<n
 ·have p:s.cs.length<n:=by omega
  rw [iP p,iP C,iP C,<- h.cs]
  generalize hr:Hq n c s=r at *
  generalize hl:s.cs.length=k at *
  have ag:s.R r c≠0:=by
   have:=L (by omega)
   simpa using this
  have E1:=E.swap (l:=r) a.1 C
  have O:∀ m,m<k->s.cs.getD m 0=(s.cs++[c]).getD m 0:=fun m hm=>(A3q s.cs c m (by omega)).symm
  have E2:=E1.cs_congr O
  have F:(s.cs++[c]).getD k 0=c:=by rw [<- hl];exact A3r _ _
  have f:(s.cs++[c]).length=k+1:=by rw [aC,hl];rfl
  have J:xch k r k=r:=Tg k r
  have ac:(if xch k r k<k then s.R (xch k r k) c else t.S (xch k r k)*s.R (xch k r k) c)=t.S r*s.R r c:=by rw [J,iN (by omega)]
  have ah:=h.scale r C
  have H:t.S r*s.R r c≠0:=by
   intro e
   rcases Rat.mul_eq_zero.1 e with e|e
   ·exact ah e
   ·exact ag e
  have E3:=E2.step (j:=c) p hc F (by show (if xch k r k<k then _ else _)≠0;rw [ac];exact H)
  have Z:=E2.next (j:=c) p hc F
  have ai:dp (fun i=>B (xch k r i)) (fun m=>(s.cs++[c]).getD m 0) k=(t.last:Rat):=by
   rw [hD,<- B7r O,C1q B _ a.1]
  rw [ai] at Z
  have af:(if xch k r k<k then s.R (xch k r k) c else t.S (xch k r k)*s.R (xch k r k) c)=t.S r*s.R r c:=ac
  have q:(t.M r c:Rat)=t.last*(t.S r*s.R r c):=by
   have:=h.val r c C hc
   rw [iN (by omega)] at this;exact this
  have N:dp (fun i=>B (xch k r i)) (fun m=>(s.cs++[c]).getD m 0) (k+1)=(t.M r c:Rat):=by
   rw [Z,q]
   show (t.last:Rat)*(if xch k r k<k then s.R (xch k r k) c else t.S (xch k r k)*s.R (xch k r k) c)=_
   rw [af]
  have aa:=X6 h.last
  have W:t.M r c≠0:=by
   intro e
   rw [e] at q
   have h0:((0:Int):Rat)=0:=rfl
   rw [h0] at q
   rcases Rat.mul_eq_zero.1 q.symm with e1|e1
   ·exact aa e1
   ·exact H e1
  have hz:∀ b,b<c->s.R r b=0:=fun b hb=>h.zero r b C (by omega) hb
  have hQ:∀ i j,(if i<k+1 then elimE (fun i=>s.R (xch k r i)) k c i j else t.S (xch k r i)*elimE (fun i=>s.R (xch k r i)) k c i j)=Bz (fun i j=>if xch k r i<k then s.R (xch k r i) j else t.S (xch k r i)*s.R (xch k r i) j) k c i j:=by
   intro i j
   unfold elimE Bz
   by_cases e:i=k
   ·subst e
    simp only [if_true,J,iN (show ¬ r<i by omega),iP (show i<i+1 by omega)]
    grind
   ·have hb:s.R r j=0\/¬ j<c:=by
     by_cases x:j<c
     ·exact .inl (hz j x)
     ·exact .inr x
    simp only [iN e,J,iN (show ¬ r<k by omega)]
    by_cases d:i<k
    ·rw [iP (show i<k+1 by omega),A2c a.1 d,iP d,iP d]
     split
     ·rename_i o
      rcases o with o|o
      ·rw [o];grind
      ·rw [hz j o];grind
     ·grind
    ·have Q:¬ xch k r i<k:=by have:=B1h (i:=i) a.1 (by omega);omega
     rw [iN (show ¬ i<k+1 by omega),iN Q,iN Q]
     split
     ·rename_i o
      rcases o with o|o
      ·rw [o];grind
      ·rw [hz j o];grind
     ·grind
  have ae:(fun i j=>if i<k+1 then elimE (fun i=>s.R (xch k r i)) k c i j else t.S (xch k r i)*elimE (fun i=>s.R (xch k r i)) k c i j)=Bz (fun i j=>if xch k r i<k then s.R (xch k r i) j else t.S (xch k r i)*s.R (xch k r i) j) k c:=by
   funext i j;exact hQ i j
  have u:∀ i,i<n->xch k r i<n:=fun i d=>Rp p C d
  refine ⟨rfl,⟨fun i=>B (xch k r i),fun i j d x=>hB _ j (u i d) x,?_,?_⟩,W,fun i j d x=>?_,fun i d=>h.scale _ (u i d),fun i j d y x=>?_,?_,fun T=>?_,fun T _=>?_,?_⟩
  ·show Elim n w _ (fun i j=>if i<(s.cs++[c]).length then elimE (fun i=>s.R (xch k r i)) k c i j else t.S (xch k r i)*elimE (fun i=>s.R (xch k r i)) k c i j) _ (s.cs++[c]).length
   rw [f,ae]
   exact E3
  ·show (t.M r c:Rat)=dp _ _ (s.cs++[c]).length
   rw [f,N]
  ·show (clr (fun i=>t.M (xch k r i)) k c t.last i j:Rat)=(t.M r c:Rat)*(if i<(s.cs++[c]).length then elimE (fun i=>s.R (xch k r i)) k c i j else t.S (xch k r i)*elimE (fun i=>s.R (xch k r i)) k c i j)
   rw [f,hQ i j]
   unfold clr
   by_cases e:i=k
   ·subst e
    rw [iP rfl]
    show (t.M (xch i r i) j:Rat)=_
    rw [J]
    unfold Bz
    simp only [if_true,J,iN (show ¬ r<i by omega)]
    have:=h.val r j C x
    rw [iN (by omega)] at this
    rw [this,q]
    grind
   ·rw [iN e]
    show (((t.M (xch k r k) c*t.M (xch k r i) j-t.M (xch k r i) c*t.M (xch k r k) j).tdiv t.last:Int):Rat)=_
    rw [J]
    have hw:=E3.whole (fun i j d x=>hB _ j (u i d) x) d x
    rw [N] at hw
    obtain ⟨z,ad⟩:=hw
    have v1:=h.val (xch k r i) j (u i d) x
    have v2:=h.val (xch k r i) c (u i d) hc
    have v3:=h.val r j C x
    rw [hl] at v1 v2 v3
    rw [iN (show ¬ r<k by omega)] at v3
    have Q:t.M r c*t.M (xch k r i) j-t.M (xch k r i) c*t.M r j=t.last*z:=by
     have:((t.M r c*t.M (xch k r i) j-t.M (xch k r i) c*t.M r j:Int):Rat)=((t.last*z:Int):Rat):=by
      rw [Rat.intCast_sub,bD,bD,bD,<- ad,v1,v2,v3,q]
      unfold Bz
      simp only [iN e,J,iN (show ¬ r<k by omega)]
      generalize (if xch k r i<k then s.R (xch k r i) j else t.S (xch k r i)*s.R (xch k r i) j)=u1
      generalize (if xch k r i<k then s.R (xch k r i) c else t.S (xch k r i)*s.R (xch k r i) c)=u2
      have o:t.S r*s.R r j/(t.S r*s.R r c)*(t.S r*s.R r c)=t.S r*s.R r j:=by
       rw [Rat.div_mul_cancel H]
      grind
     exact_mod_cast this
    rw [A5r h.last Q,<- ad]
  ·show elimE (fun i=>s.R (xch k r i)) k c i j=0
   have aj:k+1<=i:=by
    have:(s.cs++[c]).length<=i:=y
    omega
   have ak:=B1h (i:=i) a.1 (show k<=i by omega)
   unfold elimE
   rw [iN (by omega)]
   simp only [J]
   by_cases e:j=c
   ·subst e
    split
    ·rename_i o
     rcases o with o|o
     ·exact o
     ·omega
    ·grind
   ·rw [iP (.inr (by omega))]
    exact h.zero _ j (u i d) (by omega) (by omega)
  ·show (s.cs++[c]).length<=c+1
   have:=h.asc
   omega
  ·show (if r=k then s.det else -s.det)*s.R r c*pr (s.cs++[c]).length (fun i=>t.S (xch k r i))=((if r=k then t.sgn else -t.sgn:Int):Rat)*(t.M r c:Rat)
   have al:k=c:=by
    have:(s.cs++[c]).length=c+1:=T
    omega
   have hd:=h.det (by omega)
   rw [hl] at hd
   rw [f,pr,J,B79 (g:=t.S) fun i d=>by rw [A2c a.1 d],q]
   by_cases e:r=k
   ·rw [iP e,iP e];grind
   ·rw [iN e,iN e,Rat.intCast_neg];grind
  ·show (if r=k then s.det else -s.det)*s.R r c=0
   have:(s.cs++[c]).length<c+1:=T
   have hd:=h.miss (by omega) (by omega)
   rw [hd]
   split<;>grind
  ·show (if r=k then t.sgn else -t.sgn)=1\/(if r=k then t.sgn else -t.sgn)= -1
   have:=h.sgn
   split<;>omega
 ·rw [iN C,iN C]
  have V:∀ i,i<n->s.cs.length<=i->s.R i c=0:=by
   intro i d y
   have:=D i y (by omega)
   simpa using this
  have G:∀ i j,i<n->s.cs.length<=i->j<c+1->s.R i j=0:=by
   intro i j d y x
   by_cases e:j=c
   ·rw [e];exact V i d y
   ·exact h.zero i j d y (by omega)
  by_cases p:s.cs.length<n
  ·rw [iP p]
   exact ⟨h.cs,⟨B,hB,E,hD⟩,h.last,h.val,h.scale,G,cU h.asc,fun T=>by have:=h.asc;have:s.cs.length=c+1:=T;omega,fun _ _=>rfl,h.sgn⟩
  ·rw [iN p]
   exact ⟨h.cs,⟨B,hB,E,hD⟩,h.last,h.val,h.scale,G,cU h.asc,fun T=>by have:=h.asc;omega,fun _ Q=>absurd Q p,h.sgn⟩
def ERel.run{n w:Nat}{A:Nat->Nat->Rat}{s:ES}{t:PS}(h:ERel n w 0 A s t):∀ c,c<=w->ERel n w c A (A86 n s c) (Cs n t c):=by
 intro c
 induction c with
 | zero=>exact fun _=>h
 | succ c ih=>exact fun a=>(ih (by omega)).step (by omega)
end Go.Proofs.YtmbfcbbkbefgfaaGreatDoor
namespace Go.Proofs.YtmbfcbbkbefgfaaGreatDoor
set_option maxRecDepth 20000
def Sz.elimE{n w k j m:Nat}{R:Nat->Nat->Rat}(hR:∀ a b,a<n->b<w->Sz m (R a b))(hk:k<n)(hj:j<w)(hm:1<=m){a b:Nat}(ha:a<n)(hb:b<w):Sz (7*m) (elimE R k j a b):=by
 have c:Sz (m+m) (R k b/R k j):=(hR k b hk hb).div (hR k j hk hj) hm
 unfold Go.Proofs.YtmbfcbbkbefgfaaGreatDoor.elimE
 split
 ·exact c.mono (by omega)
 ·split
  ·exact (hR a b ha hb).mono (by omega)
  ·exact ((hR a b ha hb).sub ((hR a j ha hj).mul c)).mono (by omega)
def C0z(n c:Nat)(s:ES)(h:s.cs.length<=n):s.cs.length<=Hq n c s/\Hq n c s<=n:=by
 have:=A3v (fun i=>decide (s.R i c≠0)) (n-s.cs.length) s.cs.length
 unfold Hq
 omega
structure SzE (n w m:Nat) (s:ES):Prop where
 R:∀ a b,a<n->b<w->Sz (7^s.cs.length*m) (s.R a b)
 det:Sz (7^s.cs.length*m) s.det
 len:s.cs.length<=n
def A0e(k m:Nat)(hm:1<=m):1<=7^k*m:=by
 have:0<7^k:=cZ (by decide)
 exact Nat.mul_pos this hm
def SzE.step{n w m c:Nat}{s:ES}(h:SzE n w m s)(hm:1<=m)(hc:c<w):SzE n w m (Fv n c s):=by
 have l:=C0z n c s h.len
 have k:=A0e s.cs.length m hm
 unfold Fv
 by_cases f:s.cs.length<n
 ·rw [iP f]
  by_cases d:Hq n c s<n
  ·rw [iP d]
   have e:(s.cs++[c]).length=s.cs.length+1:=by simp
   have j:7^(s.cs.length+1)*m=7*(7^s.cs.length*m):=by rw [dS,aL (7^s.cs.length) 7,dA]
   refine ⟨fun a b g i=>?_,?_,?_⟩
   ·show Sz (7^(s.cs++[c]).length*m) _
    rw [e,j]
    exact Sz.elimE (n:=n) (w:=w) (fun a b g i=>h.R _ b (Rp f d g) i) f hc k g i
   ·show Sz (7^(s.cs++[c]).length*m) ((if Hq n c s=s.cs.length then s.det else -s.det)*s.R (Hq n c s) c)
    rw [e,j]
    have:Sz (7^s.cs.length*m) (if Hq n c s=s.cs.length then s.det else -s.det):=by
     split
     ·exact h.det
     ·exact h.det.neg
    exact (this.mul (h.R _ c d hc)).mono (by omega)
   ·show (s.cs++[c]).length<=n
    omega
  ·rw [iN d]
   exact ⟨h.R,Sz.zero k,h.len⟩
 ·rw [iN f];exact h
def SzE.run{n w m:Nat}{s:ES}(h:SzE n w m s)(hm:1<=m):∀ c,c<=w->SzE n w m (A86 n s c):=by
 intro c
 induction c with
 | zero=>exact fun _=>h
 | succ c ih=>exact fun a=>(ih (by omega)).step hm (by omega)
def B88{m:Nat}{x d:Int}(h:ZB m x):ZB m (x.tdiv d):=by
 refine h.le ?_
 rw [Int.natAbs_tdiv]
 exact Nat.div_le_self _ _
def ZB.clr{n w k j m:Nat}{M:Nat->Nat->Int}{d:Int}(hM:∀ a b,a<n->b<w->ZB m (M a b))(hk:k<n)(hj:j<w){a b:Nat}(ha:a<n)(hb:b<w):ZB (2*m+1) (clr M k j d a b):=by
 unfold Go.Proofs.YtmbfcbbkbefgfaaGreatDoor.clr
 split
 ·exact (hM k b hk hb).mono (by omega)
 ·refine B88 ?_
  have c:=(hM k j hk hj).mul (hM a b ha hb)
  have e:=(hM a j ha hj).mul (hM k b hk hb)
  exact (c.sub e).mono (by omega)
def A60(n c:Nat)(s:PS)(h:s.cs.length<=n):s.cs.length<=Ul n c s/\Ul n c s<=n:=by
 have:=A3v (fun i=>decide (s.M i c≠0)) (n-s.cs.length) s.cs.length
 unfold Ul
 omega
structure ZbP (n w m l:Nat) (s:PS):Prop where
 M:∀ a b,a<n->b<w->ZB (3^s.cs.length*m) (s.M a b)
 last:ZB (3^s.cs.length*m) s.last
 S:∀ a,a<n->Sz l (s.S a)
 len:s.cs.length<=n
def A0f(k m:Nat)(hm:1<=m):1<=3^k*m:=by
 have:0<3^k:=cZ (by decide)
 exact Nat.mul_pos this hm
def ZbP.step{n w m l c:Nat}{s:PS}(h:ZbP n w m l s)(hm:1<=m)(hc:c<w):ZbP n w m l (Ie n c s):=by
 have k:=A60 n c s h.len
 have o:=A0f s.cs.length m hm
 unfold Ie
 by_cases f:Ul n c s<n
 ·rw [iP f]
  have g:s.cs.length<n:=by omega
  have e:(s.cs++[c]).length=s.cs.length+1:=by simp
  have j:3^(s.cs.length+1)*m=3*(3^s.cs.length*m):=by rw [dS,aL (3^s.cs.length) 3,dA]
  refine ⟨fun a b d i=>?_,?_,fun a d=>h.S _ (Rp g f d),?_⟩
  ·show ZB (3^(s.cs++[c]).length*m) _
   rw [e,j]
   exact (ZB.clr (n:=n) (w:=w) (fun a b d i=>h.M _ b (Rp g f d) i) g hc d i).mono (by omega)
  ·show ZB (3^(s.cs++[c]).length*m) (s.M (Ul n c s) c)
   rw [e,j]
   exact (h.M _ c f hc).mono (by omega)
  ·show (s.cs++[c]).length<=n
   omega
 ·rw [iN f];exact h
def ZbP.run{n w m l:Nat}{s:PS}(h:ZbP n w m l s)(hm:1<=m):∀ c,c<=w->ZbP n w m l (Cs n s c):=by
 intro c
 induction c with
 | zero=>exact fun _=>h
 | succ c ih=>exact fun a=>(ih (by omega)).step hm (by omega)
structure Asc (l:List Nat) (c:Nat):Prop where
 lt:∀ x∈l,x<c
 asc:l.Pairwise (· < ·)
def Asc.snoc{l:List Nat}{c:Nat}(h:Asc l c):Asc (l++[c]) (c+1):=by
 refine ⟨fun x d=>?_,?_⟩
 ·rcases List.mem_append.1 d with d|d
  ·have:=h.lt x d;omega
  ·simp at d;omega
 ·rw [List.pairwise_append]
  refine ⟨h.asc,by simp,fun a f b e=>?_⟩
  simp at e;subst e;exact h.lt a f
def Asc.mono{l:List Nat}{c d:Nat}(h:Asc l c)(hcd:c<=d):Asc l d:=⟨fun x a=>Nat.lt_of_lt_of_le (h.lt x a) hcd,h.asc⟩
def A85(n:Nat)(s:ES)(h:s.cs=[]):∀ c,Asc (A86 n s c).cs c:=by
 intro c
 induction c with
 | zero=>show Asc s.cs 0;rw [h];exact ⟨by simp,.nil⟩
 | succ c ih=>
  show Asc (Fv n c (A86 n s c)).cs (c+1)
  unfold Fv
  split
  ·split
   ·exact ih.snoc
   ·exact ih.mono (by omega)
  ·exact ih.mono (by omega)
def Bk(z:Int)(l:List cC):iAt (I z::l) 0=z:=rfl
def B24:prog.cellsOf K6=4/\(prog.info? K6).isSome=true:=Ti
section
variable {α β:Type} [E:Enc α] {R:aG->α->β->Prop}
def OwnK(R:aG->α->β->Prop)(h h':aG)(b n k:Nat)(f:Nat->β):Prop:=∃ g o xs,h.le g/\Sep h' g o/\RowX o b xs/\xs.length=n/\Row R g xs k f
def OwnK.zero{h:aG}{b n:Nat}{f:Nat->β}{e:bY}{z:α}(hb:h b=none):OwnK R h (B9n e h b (aO n z)) b n 0 f:=
 ⟨h,Bh.put b (.cells ((aO n z).flatMap enc).toArray e),aO n z,B4 _,Y9 hb,RowX.mk,by simp,Row.nil⟩
def OwnK.store(m:Mon R){P:cV}{t:bY}(one:P.cellsOf t=E.default.size/\(P.info? t).isSome=true){h h' g g' o:aG}{b n k:Nat}{f:Nat->β}{xs:List α}(lg:h.le g)(lg':g.le g')(s:Sep h' g' o)(rb:RowX o b xs)(hn:xs.length=n)(r:Row R g xs k f)(hk:k<n){v:cC}{y:α}(hv:v.cells=(enc y).toArray)(hy:R g' y (f k)){K:Unit->aG->Prop}
 (x:∀ h2,OwnK R h h2 b n (k+1) f->K () h2):wpH P (aT t (.pointer (some (aE ⟨b,0,none⟩ (k*E.default.size)))) v) K h':=by
 refine S0 one hv s rb (by omega) ?_
 intro h2 c i e d a
 exact x h2 ⟨g',c,_,B0 lg lg',d,a,by simpa using hn,(r.mono m lg').set (by omega) hy⟩
end
def Ao:QV:=⟨false,none,0,0,false,none,0,0⟩
section
variable {h:aG} {K:VP} {A:Option aJ} {n c m:Nat} {ls:Nat->List UInt8} {f:Nat->Rat} {a w:QV} {q:Rat}
def Ah(gl:Gl h)(r:bG SSr h A n ls)(hn:n<=1000000)(hl:LL n ls)
 (hK1:(∀ i,i<n->cW (ls i))->∀ b h',Own RQr h h' b n (fun i=>rv (ls i))->K (.tuple #[.slice (some ⟨b,0,none⟩) n n,.bool true]) h')
 (hK0:¬ (∀ i,i<n->cW (ls i))->∀ h',h.le h'->K (.tuple #[.slice none 0 0,.bool false]) h'):aX prog Ey #[.slice A n c] h K:=by
 refine A7h _ _ _ ?_
 unfold A98
 refine L8 B25 (zx:=Ao) rfl (by omega) (by omega) (by omega) (by omega) ?_
 intro b M
 refine ⟨_,_,_,rfl,fun L p=>∃ k:Nat,k<=n/\L=[I k]/\(∀ i,i<k->cW (ls i))/\OwnK RQr h p b n k (fun i=>rv (ls i)),fun L _=>n-(iAt L 0).toNat,⟨0,by omega,rfl,fun i Q=>by omega,OwnK.zero M⟩,?_⟩
 rintro t p ⟨k,T,H,f,g,o,R,l,s,E,D,F⟩
 obtain rfl:=sI1 H
 refine B7 (fun x=>?_) (fun J=>?_)
 ·have d:k<n:=by omega
  obtain ⟨a,rfl,N⟩:=(r.mono L7 (B0 l s.le)).sat d
  refine ⟨a,rfl,by omega,by omega,_,N,?_⟩
  refine s.call (Yf (gl.mono l).tz (hl k d) ?_ ?_)
  ·intro q e w C u S B z
   refine ⟨_,_,_,_,_,_,_,_,_,rfl,_,rfl,by omega,by simpa using x,?_⟩
   refine OwnK.store K9 B24 (y:=w) l u z E D F d rfl (by show RQ C w (rv (ls k));rw [e,D9];exact S) ?_
   intro V O
   rw [wiS k (by omega)]
   refine ⟨⟨k+1,by omega,rfl,fun i Q=>?_,O⟩,?_⟩
   ·by_cases G:i=k
    ·subst G;exact ⟨q,e⟩
    ·exact f i (by omega)
   ·simp only [Bk];omega
  ·intro m w C u _ B z
   exact ⟨_,_,_,_,_,_,_,_,_,rfl,hK0 (fun j=>m (j k d)) B (B0 l (B0 u z.le))⟩
 ·have:k=n:=by omega
  subst this
  exact hK1 f b p ⟨g,o,R,l,s,E,D,F⟩
def Id(gl:Gl h)(r:bG RQr h A n f)(hn:n<=1000000)(hs:∀ i,i<n->Sz m (f i))(hm:m<=40000000)
 (hK:∀ b h',Own SSr h h' b n (fun i=>I8 (f i))->K (.slice (some ⟨b,0,none⟩) n n) h'):aX prog Ew #[.slice A n c] h K:=by
 refine A7f _ _ _ ?_
 unfold A96
 refine L8 Ft (zx:=([]:List UInt8)) rfl (by omega) (by omega) (by omega) (by omega) ?_
 intro b B
 refine ⟨_,_,_,rfl,fun L j=>∃ k:Nat,k<=n/\L=[I k]/\OwnK SSr h j b n k (fun i=>I8 (f i)),fun L _=>n-(iAt L 0).toNat,⟨0,by omega,rfl,OwnK.zero B⟩,?_⟩
 rintro t j ⟨k,O,x,g,o,H,e,s,q,p,u⟩
 obtain rfl:=sI1 x
 refine B7 (fun l=>?_) (fun z=>?_)
 ·have d:k<n:=by omega
  obtain ⟨a,w,rfl,M,D,C,F,J⟩:=(r.mono K9 e).qat d
  refine ⟨_,rfl,by omega,by omega,_,_,_,_,_,_,_,_,B5 s.le D,B5 s.le C,B5 s.le F,B5 s.le J,?_⟩
  refine s.call (T4 (gl.mono e).p10 M (hs k d) hm ?_)
  intro N G
  refine ⟨_,rfl,_,rfl,by omega,by simpa using l,?_⟩
  refine OwnK.store L7 Ae (y:=I8 (f k)) e (B4 _) G q p u d rfl rfl ?_
  intro Q E
  rw [wiS k (by omega)]
  exact ⟨⟨k+1,by omega,rfl,E⟩,by simp only [Bk];omega⟩
 ·have:k=n:=by omega
  subst this
  exact hK b j ⟨g,o,H,e,s,q,p,u⟩
def Ej(r:bG NQr h A n f)(hn:n<=1000000)(hs:∀ i,i<n->Sz m (f i))(hm:m<=1000000000)
 (hK:∀ b h',Own SSr h h' b n (fun i=>I8 (f i))->K (.slice (some ⟨b,0,none⟩) n n) h'):aX prog Gm #[.slice A n c] h K:=by
 refine B5k _ _ _ ?_
 unfold C04
 refine L8 Ft (zx:=([]:List UInt8)) rfl (by omega) (by omega) (by omega) (by omega) ?_
 intro b B
 refine ⟨_,_,_,rfl,fun L j=>∃ k:Nat,k<=n/\L=[I k]/\OwnK SSr h j b n k (fun i=>I8 (f i)),fun L _=>n-(iAt L 0).toNat,⟨0,by omega,rfl,OwnK.zero B⟩,?_⟩
 rintro t j ⟨k,O,x,g,o,H,e,s,q,p,u⟩
 obtain rfl:=sI1 x
 refine B7 (fun l=>?_) (fun z=>?_)
 ·have d:k<n:=by omega
  obtain ⟨a,w,rfl,M,D,C,F,J⟩:=(r.mono I9 e).qat d
  refine ⟨_,rfl,by omega,by omega,_,_,_,_,_,_,_,_,B5 s.le D,B5 s.le C,B5 s.le F,B5 s.le J,?_⟩
  refine s.call (B1y M (hs k d) hm ?_)
  intro N G
  refine ⟨_,rfl,_,rfl,by omega,by simpa using l,?_⟩
  refine OwnK.store L7 Ae (y:=I8 (f k)) e (B4 _) G q p u d rfl rfl ?_
  intro Q E
  rw [wiS k (by omega)]
  exact ⟨⟨k+1,by omega,rfl,E⟩,by simp only [Bk];omega⟩
 ·have:k=n:=by omega
  subst this
  exact hK b j ⟨g,o,H,e,s,q,p,u⟩
def Bi(f:Nat->Rat):Nat->Nat
 | 0=>1
 | n+1=>dU (Bi f n) (f n).den
def A0l(f:Nat->Rat):∀ n,0<Bi f n:=by
 intro n
 induction n with
 | zero=>exact Nat.one_pos
 | succ n ih=>exact Nat.lcm_pos ih (f n).den_pos
def A0m(f:Nat->Rat):∀ n i,i<n->(f i).den∣Bi f n:=by
 intro n
 induction n with
 | zero=>intro i h;omega
 | succ n ih=>
  intro i a
  by_cases e:i=n
  ·subst e;exact Nat.dvd_lcm_right _ _
  ·exact Nat.dvd_trans (ih i (by omega)) (Nat.dvd_lcm_left _ _)
def ZB.lcm{k j:Nat}{x y:Nat}(hx:ZB k (x:Int))(hy:ZB j (y:Int)):ZB (k+j) ((dU x y:Nat):Int):=by
 have:=hx.mul hy
 unfold ZB at *
 rw [dC]
 rw [Int.natAbs_mul,dC,dC] at this
 refine Nat.lt_of_le_of_lt ?_ this
 unfold dU
 exact Nat.div_le_self _ _
def Ld{f:Nat->Rat}{m:Nat}: ∀ n,(∀ i,i<n->Sz m (f i))->ZB (1+n*m) (Bi f n:Int):=by
 intro n
 induction n with
 | zero=>intro _;exact ZB.one (by omega)
 | succ n ih=>
  intro h
  have:=(ih fun i a=>h i (by omega)).lcm (h n (by omega)).den
  exact this.mono (by rw [aK,aM];omega)
def Ea(gl:Gl h)(r:bG RQr h A n f)(hn:n<=1000000)(hs:∀ i,i<n->Sz m (f i))(hm:1+n*m+m<=6400000000)
 (hK:∀ s A' n' c' h',h.le h'->ZI h' s A' n' c' (Bi f n:Int)->K (.agg #[.bool s,.slice A' n' c']) h'):aX prog J7 #[.slice A n c] h K:=by
 refine Jl _ _ _ ?_
 unfold Dr
 refine Eg (by omega) (by omega) ?_
 intro s1 A1 n1 c1 y V X
 refine ⟨_,_,_,_,rfl,fun L q=>∃ (k:Nat) (s:Bool) (B:Option aJ) (p o:Nat),k<=n/\L=[I k,.bool s,.slice B p o]/\h.le q/\ZI q s B p o (Bi f k:Int),fun L _=>n-(iAt L 0).toNat,⟨0,_,_,_,_,by omega,rfl,V,X⟩,?_⟩
 rintro t s B p o q ⟨k,C,B',j,g,hk,D,l,i⟩
 simp only [bF,cJ,cG,bC,true_and,and_true] at D
 obtain ⟨rfl,rfl,rfl,rfl,rfl⟩:=D
 have F:B6 ((k:Int)+1)=((k+1:Nat):Int):=by rw [B8]<;>omega
 refine B7 (fun Z=>?_) (fun M=>?_)
 ·have x:k<n:=by omega
  obtain ⟨a,w,rfl,J,R,O,W,d3⟩:=(r.mono K9 l).qat x
  have S:1+k*m<=6400000000:=by
   have:k*m<=n*m:=aD _ (by omega)
   omega
  have d:1+k*m+m<=6400000000:=by
   have:k*m<=n*m:=aD _ (by omega)
   omega
  have N:=(Ld k fun i hi=>hs i (by omega)).mono (show 1+k*m<=1+k*m+m by omega)
  have G:=(hs k x).den.mono (show m<=1+k*m+m by omega)
  refine ⟨_,rfl,by omega,by omega,_,_,_,_,_,_,_,_,R,O,W,d3,?_⟩
  refine G1 J.den ⟨_,rfl,?_⟩
  have u:((if (f k).den=1 then 0 else ((f k).den:Int))=0)↔(f k).den=1:=by
   have:=(f k).den_pos
   split<;>omega
  have same:Bi f (k+1)=Bi f k->(∃ (k':Nat) (C:Bool) (B':Option aJ) (j g:Nat),k'<=n/\[I (B6 ((k:Int)+1)),.bool s,.slice B p o]=[I k',.bool C,.slice B' j g]/\h.le q/\ZI q C B' j g (Bi f k':Int))/\n-(iAt [I (B6 ((k:Int)+1)),.bool s,.slice B p o] 0).toNat<n-(iAt [I (k:Int),.bool s,.slice B p o] 0).toNat:=by
   intro e
   rw [F]
   exact ⟨⟨k+1,_,_,_,_,by omega,rfl,l,by rw [e];exact i⟩,by simp only [Bk];omega⟩
  refine R2 (B7 (fun y=>?_) (fun y=>?_))
  ·have z:=u.1 y
   exact same (by rw [Bi,z];exact Nat.lcm_one_right _)
  ·have z:(if (f k).den=1 then 0 else ((f k).den:Int))=((f k).den:Int):=iN fun e=>y (u.2 e)
   have b:=J.den
   rw [z] at b
   refine A5g b i G d ⟨_,rfl,?_⟩
   refine R2 (B7 (fun E=>?_) (fun E=>?_))
   ·have Q:(f k).den=Bi f k:=by exact_mod_cast E
    exact same (by rw [Bi,Q];exact Nat.lcm_self _)
   ·refine B1f (gl.mono l).tz i b N G d ?_
    intro A' n' c' h' T H
    refine ⟨_,_,_,_,rfl,?_⟩
    rw [F]
    refine ⟨⟨k+1,_,_,_,_,by omega,rfl,B0 l T,?_⟩,by simp only [Bk];omega⟩
    have:Int.lcm (Bi f k:Int) ((f k).den:Int)=Bi f (k+1):=by simp [Int.lcm,Bi]
    rw [this] at H;exact H
 ·have:k=n:=by omega
  subst this
  exact hK _ _ _ _ q l i
def scl(q:Rat)(d:Int):Int:=q.num*d.tdiv q.den
def C18(q:Rat):q*(q.den:Rat)=(q.num:Rat):=by
 have h:=Rat.num_divInt_den q
 rw [cN] at h
 have a:((q.den:Int):Rat)≠0:=X6 (den_ne q)
 have e:((q.den:Int):Rat)=(q.den:Rat):=rfl
 rw [<- e]
 calc q*((q.den:Int):Rat)=(q.num:Rat)/((q.den:Int):Rat)*((q.den:Int):Rat):=by rw [h]
  _=q.num:=Rat.div_mul_cancel a
def B2g{q:Rat}{d:Int}(h:(q.den:Int)∣d):(scl q d:Rat)=q*d:=by
 obtain ⟨e,rfl⟩:=h
 unfold scl
 rw [dO _ (den_ne q),bD,bD]
 have a:q*(q.den:Rat)=(q.num:Rat):=C18 q
 have b:(((q.den:Nat):Int):Rat)=(q.den:Rat):=rfl
 rw [b,<- a,dM]
def B2f{q:Rat}{d:Int}{k:Nat}(hq:Sz m q)(hd:ZB k d):ZB (m+k) (scl q d):=hq.num.mul hd.tdiv
def Ky{s:Bool}{B:Option aJ}{bn bc:Nat}{d:Int}(i:RQ h w q)(j:ZI h s B bn bc d)(hq:Sz m q)(hd:ZB m d)(hm:m<=6400000000)
 (hK:∀ s A' n' c' h',h.le h'->ZI h' s A' n' c' (scl q d)->K (.agg #[.bool s,.slice A' n' c']) h'):aX prog In #[w.v,.agg #[.bool s,.slice B bn bc]] h K:=by
 refine B0x _ _ _ _ _ _ _ _ _ _ _ _ ?_
 unfold B5f
 refine G1 i.den ⟨_,rfl,?_⟩
 have b:((if q.den=1 then 0 else (q.den:Int))=0)↔q.den=1:=by
  have:=q.den_pos
  split<;>omega
 refine B7 (fun f=>?_) (fun f=>?_)
 ·have g:=b.1 f
  refine L4 i.num j hq.num hd hm ?_
  intro o A' n' c' h' l t
  refine ⟨_,_,_,_,rfl,hK _ _ _ _ _ l ?_⟩
  have:scl q d=q.num*d:=by unfold scl;rw [g];simp
  rw [this];exact t
 ·have g:(if q.den=1 then 0 else (q.den:Int))=(q.den:Int):=iN fun e=>f (b.2 e)
  have a:=i.den
  rw [g] at a
  refine Q1 j a hd hq.den hm (den_ne q) ?_
  intro o A1 y c1 r c n
  refine ⟨_,_,_,_,rfl,c,?_⟩
  refine L4 (i.num.mono c) n hq.num hd.tdiv hm ?_
  intro z A2 u c2 x k p
  exact ⟨_,_,_,_,rfl,k,hK _ _ _ _ _ (B0 c k) p⟩
end
instance:Enc Int:=⟨⟨fun z=>[I z],1,fun _=>rfl,fun z v hv=>by rw [List.mem_singleton.1 hv];rfl⟩⟩
abbrev IIr:aG->Int->Int->Prop:=fun _ w z=>w=z
section
variable {α:Type} [E:Enc α]
def OwnSl(o:aG)(e:bY)(A:Option aJ)(c:Nat)(xs:List α):Prop:=
 xs.length<=c/\((c=0/\A=none)\/∃ b arr,A=some ⟨b,0,none⟩/\o b=some (.cells (cP arr) e)/\arr.length=c*E.default.size/\arr.take (xs.length*E.default.size)=xs.flatMap enc)
def OwnSl.nil{o:aG}{e:bY}:OwnSl o e none 0 ([]:List α):=⟨aF _,.inl ⟨rfl,rfl⟩⟩
def OwnSl.keep{o o':aG}{e:bY}{A:Option aJ}{c:Nat}{xs:List α}(w:OwnSl o e A c xs)(h:∀ b x,A=some ⟨b,0,none⟩->o b=some x->o' b=some x):OwnSl o' e A c xs:=by
 refine ⟨w.1,?_⟩
 rcases w.2 with g|⟨b,a,d,i,j,f⟩
 ·exact .inl g
 ·exact .inr ⟨b,a,d,h b _ d i,j,f⟩
def OwnSl.rowB{o:aG}{e:bY}{A:Option aJ}{c:Nat}{xs:List α}(w:OwnSl o e A c xs)(hne:xs≠[]):∃ b,A=some ⟨b,0,none⟩/\RowB o b xs:=by
 rcases w.2 with g|⟨b,a,d,i,j,f⟩
 ·exfalso
  have:=w.1
  have:=g.1
  have:xs.length≠0:=fun h=>hne (cR h)
  omega
 ·exact ⟨b,d,e,a.drop (xs.length*E.default.size),by rw [i,<- f,List.take_append_drop]⟩
def OwnSl.slF{o h:aG}{e:bY}{A:Option aJ}{c:Nat}{xs:List α}(w:OwnSl o e A c xs)(hl:o.le h):SlF h A xs:=by
 by_cases a:xs=[]
 ·rw [a];exact SlF.nil
 ·obtain ⟨b,rfl,r⟩:=w.rowB a
  exact r.slF hl
def OwnSl.priv{h g o:aG}{e:bY}{A:Option aJ}{c:Nat}{xs:List α}(s:Sep h g o)(w:OwnSl o e A c xs):∃ gb,PrivF h gb e A c xs/\∀ k x,h k=some x->A≠some ⟨k,0,none⟩->gb k=some x:=by
 rcases w.2 with ⟨m,i⟩|⟨b,a,f,n,p,l⟩
 ·subst m
  have j:xs=[]:=cR (by have:=w.1;omega)
  subst j
  exact ⟨h,PrivF.nil h e A,fun k x e _=>e⟩
 ·refine ⟨h.without b,⟨H9 xs,w.1,.inr ⟨b,a,f,S1 _ _,(J5 (s.own b _ n)).symm,p,l⟩⟩,fun k x e d=>?_⟩
  unfold Heap.without
  rw [iN]
  ·exact e
  ·rintro rfl;exact d f
def OwnSl.push{P:cV}{t e ty:bY}{z:cC}{bytes:Nat}(st:SliceT P t e z E.default.size bytes){h g o:aG}{A:Option aJ}{c:Nat}{xs:List α}(s:Sep h g o)(w:OwnSl o e A c xs){v:cC}{y:α}(hv:v.cells=(enc y).toArray)(hsz:E.default.size<=1000)
 (hb:(2*(xs.length+1)+192)*bytes<=281474976710656) (hn:xs.length+1<=9223372036854775807) {K1:aG->Prop} {K:Option aJ->Nat->Nat->aG->Prop}
 (x0:∀ h1,h.le h1->K1 h1)
 (x:∀ A' c' h' g' o',g.le g'->Sep h' g' o'->OwnSl o' e A' c' (xs++[y])->(∀ k u,o k=some u->A≠some ⟨k,0,none⟩->o' k=some u/\A'≠some ⟨k,0,none⟩)->K A' (xs.length+1) c' h'):
 wpH P (cI t 1 #[(0,v)]) (fun v' hp=>∃ (B:Option aJ) (m d:Nat),v'= .slice B m d/\K1 hp/\wpH P (bL #[t,t] ty #[.slice A xs.length c,.slice B m d]) (fun v1 hp1=>∃ (A':Option aJ) (n' c':Nat),v1= .slice A' n' c'/\K A' n' c' hp1) hp) h:=by
 obtain ⟨gb,p,H⟩:=w.priv s
 refine Ny st (vs:=[v]) (fun u hu=>by rw [List.mem_singleton.1 hu,hv];simp [E.default.len]) rfl (by simp;omega) rfl ?_
 intro b i
 have T:[v].flatMap (fun v=>v.cells.toList)=[y].flatMap enc:=by simp [hv]
 rw [T]
 refine ⟨_,_,_,rfl,x0 _ (Heap.le_put _ i),?_⟩
 have p':PrivF (h.put b (.cells ([y].flatMap enc).toArray e)) (gb.put b (.cells ([y].flatMap enc).toArray e)) e A c xs:=Priv.put p i _
 refine Kf st p' (ys:=[y]) rfl (Ly e h b [y]) hb hn ?_
 intro A' c' h' g' hg hp
 refine ⟨_,_,_,rfl,?_⟩
 rw [aC]
 have G:∀ k u,h k=some u->A≠some ⟨k,0,none⟩->g' k=some u:=by
  intro k u a R
  have f:k≠b:=by rintro rfl;rw [i] at a;cases a
  exact hg k u (by rw [B9 _ _ f];exact H k u a R)
 have M:∀ k u,g k=some u->A≠some ⟨k,0,none⟩:=by
  intro k u a n
  rcases w.2 with ⟨_,W⟩|⟨j,q,l,r,_⟩
  ·rw [n] at W;cases W
  ·rw [n] at l
   simp only [aQ,aZ,and_true] at l
   subst l
   rw [s.dis k _ r] at a;cases a
 rcases hp.2.2 with ⟨aa,_⟩|⟨j,q,l,r,L,ha,ht⟩
 ·exfalso
  have:=hp.2.1
  rw [aC] at this
  simp at this
  omega
 ·subst l
  let o':aG:=fun k=>if k=j then some (.cells (cP q) e) else if A=some ⟨k,0,none⟩ then none else o k
  have V:o' j=some (.cells (cP q) e):=by show (if j=j then _ else _)=_;rw [iP rfl]
  have S:∀ k,k≠j->A≠some ⟨k,0,none⟩->o' k=o k:=fun k h1 C=>by show (if k=j then _ else if _ then _ else _)=_;rw [iN h1,iN C]
  have Q:∀ k,k≠j->A=some ⟨k,0,none⟩->o' k=none:=fun k h1 C=>by show (if k=j then _ else if _ then _ else _)=_;rw [iN h1,iP C]
  let g2:aG:=fun k=>match o' k with|some _=>none|none=>h' k
  have gs:∀ k u,o' k=some u->g2 k=none:=fun k u a=>by show (match o' k with|some _=>none|none=>h' k)=_;rw [a]
  have Z:∀ k,o' k=none->g2 k=h' k:=fun k a=>by show (match o' k with|some _=>none|none=>h' k)=_;rw [a]
  have D:∀ k u,k≠j->g' k=some u->h' k=some u:=fun k u h1 a=>by rw [L,B9 _ _ h1];exact a
  have J:∀ k u,o k=some u->A≠some ⟨k,0,none⟩->k≠j:=by
   rintro k u a C rfl
   have:=G k u (s.own k u a) C
   rw [r] at this;cases this
  refine x _ c' h' g2 o' (fun k u a=>?_) ⟨fun k u a=>?_,fun k a=>(Z k a).symm,gs⟩ ⟨hp.2.1,.inr ⟨j,q,rfl,V,ha,ht⟩⟩ (fun k u a C=>?_)
  ·have N:o k=none:=by
    cases ho:o k with
    | none=>rfl
    | some y=>rw [s.dis k y ho] at a;cases a
   have n:=M k u a
   have O:=G k u (s.le k u a) n
   have F:k≠j:=by rintro rfl;rw [r] at O;cases O
   rw [Z k (by rw [S k F n];exact N)]
   exact D k u F O
  ·by_cases f:k=j
   ·subst f
    rw [V] at a;cases a
    rw [L,C0]
   ·by_cases n:A=some ⟨k,0,none⟩
    ·rw [Q k f n] at a;cases a
    ·rw [S k f n] at a
     exact D k u f (G k u (s.own k u a) n)
  ·have f:=J k u a C
   refine ⟨by rw [S k f C];exact a,fun X=>f ?_⟩
   simp only [aQ,aZ,and_true] at X
   exact X.symm
end
structure Tb where
 bt:Nat
 bE:Nat
 bS:Nat
 rows:Nat
 cols:Nat
 cE:Nat
 cS:Nat
structure Tab (h g o:aG) (T:Tb) (M:Nat->Nat->Int) (S:Nat->Rat):Prop where
 sep:Sep h g o
 n1:T.bt≠T.bE
 n2:T.bt≠T.bS
 n3:T.bE≠T.bS
 head:∃ e,o T.bt=some (.cells #[I T.cols,.slice (some ⟨T.bE,0,none⟩) (T.rows*T.cols) T.cE,.slice (some ⟨T.bS,0,none⟩) T.rows T.cS] e)
 elems:∃ ws:List IV,RowB o T.bE ws/\ws.length=T.rows*T.cols/\∀ i j,i<T.rows->j<T.cols->∃ w,ws[i*T.cols+j]? = some w/\ZIr g w (M i j)
 scales:∃ ss:List QV,RowB o T.bS ss/\ss.length=T.rows/\Row RQr g ss T.rows S
 cE:T.rows*T.cols<=T.cE
 cS:T.rows<=T.cS
 small:T.rows<=10000/\T.cols<=10000
 pos:0<T.cols
def C69(M:Nat->Nat->Int)(i j:Nat)(z:Int):Nat->Nat->Int:=fun a b=>if a=i/\b=j then z else M a b
def Bj{rows cols i j:Nat}(hi:i<rows)(hj:j<cols):i*cols+j<rows*cols:=by
 have:(i+1)*cols<=rows*cols:=aD _ hi
 rw [aK,aM] at this
 omega
def C1c{cols i j i' j':Nat}(hj:j<cols)(hj':j'<cols)(h:i*cols+j=i'*cols+j'):i=i'/\j=j':=by
 have a:(i*cols+j)/cols=i:=by rw [aL,dH (by omega),bH hj,cY]
 have b:(i'*cols+j')/cols=i':=by rw [aL,dH (by omega),bH hj',cY]
 have:i=i':=by rw [<- a,<- b,h]
 subst this
 exact ⟨rfl,by omega⟩
section
variable {h g o:aG} {T:Tb} {M:Nat->Nat->Int} {S:Nat->Rat} {K:VP} {m:Nat}
def Tab.next(t:Tab h g o T M S){h' g':aG}(s:Sep h' g' o)(l:g.le g'):Tab h' g' o T M S:=by
 refine ⟨s,t.n1,t.n2,t.n3,t.head,?_,?_,t.cE,t.cS,t.small,t.pos⟩
 ·obtain ⟨f,r,a,b⟩:=t.elems
  refine ⟨f,r,a,fun i j c k=>?_⟩
  obtain ⟨w,e,d⟩:=b i j c k
  exact ⟨w,e,Kk _ _ _ _ l d⟩
 ·obtain ⟨m,r,a,b⟩:=t.scales
  exact ⟨m,r,a,b.mono K9 l⟩
def Tab.congr(t:Tab h g o T M S){M':Nat->Nat->Int}{S':Nat->Rat}(hM:∀ i j,i<T.rows->j<T.cols->M i j=M' i j)(hS:∀ i,i<T.rows->S i=S' i):Tab h g o T M' S':=by
 refine ⟨t.sep,t.n1,t.n2,t.n3,t.head,?_,?_,t.cE,t.cS,t.small,t.pos⟩
 ·obtain ⟨e,r,a,b⟩:=t.elems
  refine ⟨e,r,a,fun i j c d=>?_⟩
  rw [<- hM i j c d];exact b i j c d
 ·obtain ⟨f,r,a,b⟩:=t.scales
  exact ⟨f,r,a,b.congr hS⟩
def Tab.c0(t:Tab h g o T M S):h.cell? (aE ⟨T.bt,0,none⟩ 0)=some (I T.cols):=by
 obtain ⟨e,a⟩:=t.head
 refine t.sep.cell ?_
 rw [E6];unfold Heap.cell?;simp only [a];rfl
def Tab.c1(t:Tab h g o T M S):h.cell? (aE ⟨T.bt,0,none⟩ 1)=some (.slice (some ⟨T.bE,0,none⟩) (T.rows*T.cols) T.cE):=by
 obtain ⟨e,a⟩:=t.head
 refine t.sep.cell ?_
 rw [E6];unfold Heap.cell?;simp only [a];rfl
def Tab.c2(t:Tab h g o T M S):h.cell? (aE ⟨T.bt,0,none⟩ 2)=some (.slice (some ⟨T.bS,0,none⟩) T.rows T.cS):=by
 obtain ⟨e,a⟩:=t.head
 refine t.sep.cell ?_
 rw [E6];unfold Heap.cell?;simp only [a];rfl
def Tab.at(t:Tab h g o T M S){i j:Nat}(hi:i<T.rows)(hj:j<T.cols):∃ w:IV,ZIr g w (M i j)/\h.cell? (aE (aE ⟨T.bE,i*T.cols*2,none⟩ (j*2)) 0)=some (.bool w.s)/\h.cell? (aE (aE ⟨T.bE,i*T.cols*2,none⟩ (j*2)) 1)=some (.slice w.A w.n w.c):=by
 obtain ⟨f,r,m,k⟩:=t.elems
 obtain ⟨w,e,d⟩:=k i j hi hj
 have l:=Bj hi hj
 have b:f[i*T.cols+j]=w:=by
  rw [aI (by omega)] at e
  cases e;rfl
 have a:i*T.cols*2+j*2=(i*T.cols+j)*2:=by rw [aK]
 refine ⟨w,d,t.sep.cell ?_,t.sep.cell ?_⟩
 ·rw [E6,E6,a]
  exact r.cell (i:=i*T.cols+j) (by omega) (j:=0) (v:=.bool w.s) (by rw [b];rfl)
 ·rw [E6,E6,a]
  exact r.cell (i:=i*T.cols+j) (by omega) (j:=1) (v:=.slice w.A w.n w.c) (by rw [b];rfl)
def Tab.ato(t:Tab h g o T M S){i j:Nat}(hi:i<T.rows)(hj:j<T.cols):∃ w:IV,ZIr g w (M i j)/\o.cell? (aE (aE ⟨T.bE,i*T.cols*2,none⟩ (j*2)) 0)=some (.bool w.s)/\o.cell? (aE (aE ⟨T.bE,i*T.cols*2,none⟩ (j*2)) 1)=some (.slice w.A w.n w.c):=by
 obtain ⟨f,r,m,k⟩:=t.elems
 obtain ⟨w,e,d⟩:=k i j hi hj
 have l:=Bj hi hj
 have b:f[i*T.cols+j]=w:=by
  rw [aI (by omega)] at e
  cases e;rfl
 have a:i*T.cols*2+j*2=(i*T.cols+j)*2:=by rw [aK]
 refine ⟨w,d,?_,?_⟩
 ·rw [E6,E6,a]
  exact r.cell (i:=i*T.cols+j) (by omega) (j:=0) (v:=.bool w.s) (by rw [b];rfl)
 ·rw [E6,E6,a]
  exact r.cell (i:=i*T.cols+j) (by omega) (j:=1) (v:=.slice w.A w.n w.c) (by rw [b];rfl)
def Sep.le_le{h' g':aG}(s:Sep h g o)(s':Sep h' g' o)(l:g.le g'):h.le h':=fun k x e=>by
 cases ho:o k with
 | some y=>rw [s.own k y ho] at e;rw [s'.own k y ho];exact e
 | none=>rw [s.rest k ho] at e;rw [s'.rest k ho];exact l k x e
def Tab.sat(t:Tab h g o T M S){i:Nat}(hi:i<T.rows):∃ w:QV,RQ g w (S i)/\h.cell? (aE (aE ⟨T.bS,0,none⟩ (i*4)) 0)=some (.bool w.s)/\h.cell? (aE (aE ⟨T.bS,0,none⟩ (i*4)) 1)=some (.slice w.A w.n w.c)/\h.cell? (aE (aE ⟨T.bS,0,none⟩ (i*4)) 2)=some (.bool w.s2)/\h.cell? (aE (aE ⟨T.bS,0,none⟩ (i*4)) 3)=some (.slice w.A2 w.n2 w.c2):=by
 obtain ⟨l,r,m,f⟩:=t.scales
 obtain ⟨w,e,a⟩:=f i hi
 have d:l[i]=w:=by
  rw [aI (by omega)] at e
  cases e;rfl
 have cell:∀ k v,(enc w)[k]? = some v->h.cell? (aE (aE ⟨T.bS,0,none⟩ (i*4)) k)=some v:=by
  intro k v b
  refine t.sep.cell ?_
  rw [E6,E6,aN]
  exact r.cell (i:=i) (by omega) (j:=k) (by rw [d];exact b)
 exact ⟨w,a,cell 0 _ rfl,cell 1 _ rfl,cell 2 _ rfl,cell 3 _ rfl⟩
def Tab.store(t:Tab h g o T M S){i j:Nat}(hi:i<T.rows)(hj:j<T.cols){w:IV}{z:Int}(hz:ZIr g w z){K:Unit->aG->Prop}
 (x:∀ h' o',Tab h' g o' T (C69 M i j z) S->(∀ k,k≠T.bE->o' k=o k)->K () h'):wpH prog (aT Fn (.pointer (some (aE ⟨T.bE,i*T.cols*2,none⟩ (j*2)))) w.v) K h:=by
 obtain ⟨N,r,G,B⟩:=t.elems
 have J:=Bj hi hj
 have n:i*T.cols*2+j*2=(i*T.cols+j)*2:=by rw [aK]
 rw [E6,n]
 refine Sep.store (E:=inferInstanceAs (Enc IV)) A02 (v:=w.v) (y:=w) rfl t.sep r (i:=i*T.cols+j) (by omega) rfl ?_
 intro h' o' L d H s
 refine x h' o' ⟨H,t.n1,t.n2,t.n3,?_,⟨_,s,by simpa using G,fun a b f m=>?_⟩,?_,t.cE,t.cS,t.small,t.pos⟩ (fun k p=>by rw [d,B9 _ _ p])
 ·obtain ⟨e,F⟩:=t.head
  exact ⟨e,by rw [d,B9 _ _ t.n1];exact F⟩
 ·unfold C69
  by_cases e:a=i/\b=j
  ·obtain ⟨rfl,rfl⟩:=e
   exact ⟨w,by rw [bX (by omega)],by rw [iP ⟨rfl,rfl⟩];exact hz⟩
  ·obtain ⟨u,D,C⟩:=B a b f m
   refine ⟨u,?_,by rw [iN e];exact C⟩
   rw [bN (fun x=>e (by have:=C1c hj m x;exact ⟨this.1.symm,this.2.symm⟩))]
   exact D
 ·obtain ⟨A,q,l,c⟩:=t.scales
  exact ⟨A,by rw [d];exact q.other t.n3.symm _,l,c⟩
def Tab.sstore(t:Tab h g o T M S){i:Nat}(hi:i<T.rows){w:QV}{q:Rat}(hz:RQ g w q){K:Unit->aG->Prop}
 (x:∀ h' o',Tab h' g o' T M (fun a=>if a=i then q else S a)->(∀ k,k≠T.bS->o' k=o k)->K () h'):wpH prog (aT K6 (.pointer (some (aE ⟨T.bS,0,none⟩ (i*4)))) w.v) K h:=by
 obtain ⟨A,r,l,p⟩:=t.scales
 rw [E6,aN]
 refine Sep.store (E:=inferInstanceAs (Enc QV)) Ti (v:=w.v) (y:=w) rfl t.sep r (i:=i) (by omega) rfl ?_
 intro h' o' z c s u
 refine x h' o' ⟨s,t.n1,t.n2,t.n3,?_,?_,⟨_,u,by simpa using l,Row.upd p (by omega) hz⟩,t.cE,t.cS,t.small,t.pos⟩ (fun k f=>by rw [c,B9 _ _ f])
 ·obtain ⟨e,j⟩:=t.head
  exact ⟨e,by rw [c,B9 _ _ t.n2];exact j⟩
 ·obtain ⟨m,n,d,b⟩:=t.elems
  exact ⟨m,by rw [c];exact n.other t.n3 _,d,b⟩
def Z2{n:Nat}(h:n<=9223372036854775807):B6 (n:Int)=(n:Int):=B8 (by omega) (by omega)
def Ga(t:Tab h g o T M S){i:Nat}(hi:i<T.rows)(hK:K (.slice (some ⟨T.bE,i*T.cols*2,none⟩) T.cols (T.cE-i*T.cols)) h):aX prog Ou #[.pointer (some ⟨T.bt,0,none⟩),I (i:Int)] h K:=by
 refine C2w _ _ ?_
 unfold C7g
 have a:=t.small
 have j:=t.pos
 have l:(i+1)*T.cols<=T.rows*T.cols:=aD _ hi
 have f:T.rows*T.cols<=10000*10000:=bB a.1 a.2
 have k:=t.cE
 have d:(i+1)*T.cols=i*T.cols+T.cols:=by rw [aK,aM]
 have e:B6 ((i:Int)*(T.cols:Int))=((i*T.cols:Nat):Int):=by rw [<- aV];exact Z2 (by omega)
 have b:B6 ((i:Int)+1)=((i+1:Nat):Int):=B8 (by omega) (by omega)
 have c:B6 (B6 ((i:Int)+1)*(T.cols:Int))=(((i+1)*T.cols:Nat):Int):=by rw [b,<- aV];exact Z2 (by omega)
 refine ⟨_,rfl,_,_,_,t.c1,_,rfl,_,t.c0,_,rfl,_,t.c0,?_⟩
 rw [e,c]
 refine ⟨⟨by omega,by omega⟩,⟨by omega,by simp only [aH];omega⟩,?_⟩
 simp only [aH]
 rw [A47 (by omega),E6,aN,d,cM]
 exact hK
def A3x(t:Tab h g o T M S){start col:Nat}(hs:start<=T.rows)(hc:col<T.cols)
 (hK1:fnd (fun i=>decide (M i col≠0)) (T.rows-start) start<T.rows->K (.tuple #[I ((fnd (fun i=>decide (M i col≠0)) (T.rows-start) start:Nat):Int),.bool true]) h)
 (hK0:fnd (fun i=>decide (M i col≠0)) (T.rows-start) start=T.rows->K (.tuple #[I 0,.bool false]) h):aX prog A19 #[.pointer (some ⟨T.bt,0,none⟩),I (start:Int),I (col:Int)] h K:=by
 refine B92 _ _ _ ?_
 unfold C53
 refine ⟨fun L l=>∃ k:Nat,k<=T.rows/\L=[I k]/\l=h/\start<=k/\∀ j,start<=j->j<k->decide (M j col≠0)=false,fun L _=>T.rows-(iAt L 0).toNat,⟨start,hs,rfl,rfl,aF _,fun j b f=>by omega⟩,?_⟩
 rintro i l ⟨k,y,m,rfl,d,c⟩
 obtain rfl:=sI1 m
 refine ⟨_,rfl,_,_,_,t.c2,B7 (fun s=>?_) (fun n=>?_)⟩
 ·have a:k<T.rows:=by omega
  refine Ga t a ⟨_,_,_,rfl,_,rfl,by omega,by omega,?_⟩
  obtain ⟨w,r,q,u⟩:=t.at a hc
  refine ⟨_,_,_,_,q,u,G1 (r.mono t.sep.le) ⟨_,rfl,R2 (B7 (fun e=>?_) (fun e=>?_))⟩⟩
  ·rw [show B6 ((k:Int)+1)=((k+1:Nat):Int) by have:=t.small;rw [B8]<;>omega]
   refine ⟨⟨k+1,by omega,rfl,rfl,by omega,fun j b f=>?_⟩,by simp only [Bk];omega⟩
   by_cases p:j=k
   ·subst p;simp [e]
   ·exact c j b (by omega)
  ·have:fnd (fun i=>decide (M i col≠0)) (T.rows-start) start=k:=B3k _ d (by omega) c (fun _=>by simpa using e)
   rw [this] at hK1
   exact hK1 a
 ·have:fnd (fun i=>decide (M i col≠0)) (T.rows-start) start=T.rows:=B3k _ hs (by omega) (fun j b f=>c j b (by omega)) (fun x=>by omega)
  exact hK0 this
def B27(t:Tab h g o T M S){i k:Nat}(hi:i<T.rows)(hk:k<T.rows)(hik:i≠k)
 (hK:∀ h' o',Tab h' g o' T (fun a=>M (xch i k a)) (fun a=>S (xch i k a))->(∀ b,b≠T.bE->b≠T.bS->o' b=o b)->K (.tuple #[]) h'):aX prog A6v #[.pointer (some ⟨T.bt,0,none⟩),I (i:Int),I (k:Int)] h K:=by
 refine B91 _ _ _ ?_
 unfold C52
 refine Ga t hi ⟨_,_,_,rfl,Ga t hk ⟨_,_,_,rfl,?_⟩⟩
 refine ⟨fun L H=>∃ (c:Nat) (s:aG),c<=T.cols/\L=[I c]/\Tab H g s T (fun a b=>if b<c then M (xch i k a) b else M a b) S/\∀ b,b≠T.bE->s b=o b,fun L _=>T.cols-(iAt L 0).toNat,⟨0,o,by omega,rfl,t.congr (fun a b _ _=>by rw [iN (by omega)]) (fun _ _=>rfl),fun _ _=>rfl⟩,?_⟩
 rintro z H ⟨c,s,hc,O,d,n⟩
 obtain rfl:=sI1 O
 refine B7 (fun Z=>?_) (fun R=>?_)
 ·have e:c<T.cols:=by omega
  obtain ⟨r,q,y,u⟩:=d.at hk e
  obtain ⟨F,p,D,C⟩:=d.at hi e
  rw [iN (aS c)] at q p
  refine ⟨_,rfl,by omega,by omega,_,_,_,_,y,u,_,rfl,by omega,by omega,_,_,_,_,D,C,_,rfl,by omega,by omega,?_⟩
  refine d.store hi e (w:=r) q ?_
  intro Q N x f
  refine ⟨_,rfl,by omega,by omega,?_⟩
  refine x.store hk e (w:=F) p ?_
  intro J G A j
  rw [show B6 ((c:Int)+1)=((c+1:Nat):Int) by have:=t.small;rw [B8]<;>omega]
  refine ⟨⟨c+1,G,by omega,rfl,A.congr (fun a b _ _=>?_) (fun _ _=>rfl),fun b l=>by rw [j b l,f b l,n b l]⟩,by simp only [Bk];omega⟩
  show (if a=k/\b=c then M i c else if a=i/\b=c then M k c else if b<c then M (xch i k a) b else M a b)=if b<c+1 then M (xch i k a) b else M a b
  unfold xch
  grind
 ·have E:c=T.cols:=by omega
  subst E
  obtain ⟨r,q,y,u,X,d3⟩:=d.sat hk
  obtain ⟨F,p,D,C,V,W⟩:=d.sat hi
  refine ⟨_,rfl,_,_,_,d.c2,_,rfl,_,_,_,d.c2,_,rfl,_,_,_,d.c2,_,rfl,by omega,by omega,_,_,_,_,_,_,_,_,y,u,X,d3,_,rfl,_,_,_,d.c2,_,rfl,by omega,by omega,_,_,_,_,_,_,_,_,D,C,V,W,_,rfl,by omega,by omega,?_⟩
  refine d.sstore hi (w:=r) q ?_
  intro Q N x f
  refine ⟨_,rfl,by omega,by omega,?_⟩
  refine x.sstore hk (w:=F) p ?_
  intro J G A j
  refine hK J G (A.congr (fun a b _ l=>by rw [iP l]) (fun a _=>?_)) (fun b B m=>by rw [j b m,f b m,n b B])
  show (if a=k then S i else if a=i then S k else S a)=S (xch i k a)
  unfold xch
  grind
end
def A72{P:cV}{t:bY}{v:cC}{K:VP}{h:aG}(x:∀ b,h b=none->K (.pointer (some ⟨b,0,none⟩)) (h.put b (.cells v.cells t))):wpH P (Instr.box t v) K h:=by
 unfold Instr.box newVar
 simp only [C5,O7,F8]
 exact x
def B2u{m k:Nat}(hm:1<=m)(hk:k<4611686018427387904):(k:Int)*2^(2*m)<b64^m:=by
 have e:b64^m=(2:Int)^(2*m)*2^(62*m):=by
  have:b64=(2:Int)^64:=by decide
  rw [this,<- Int.pow_mul,<- Int.pow_add]
  congr 1;omega
 have b:(2:Int)^62<=2^(62*m):=C9 (by decide) (by omega)
 have c:(k:Int)<2^62:=by
  have:(2:Int)^62=4611686018427387904:=by decide
  rw [this];omega
 have a:(0:Int)<2^(2*m):=Int.pow_pos (by decide)
 rw [e,Int.mul_comm]
 exact Int.mul_lt_mul_of_pos_left (Int.lt_of_lt_of_le c b) a
def A66{m:Nat}{x y:Int}(hx:ZB m x)(hy:ZB m y):((x*y).natAbs:Int)<=2^(2*m):=by
 have:=hx.mul hy
 unfold ZB at this
 have e:m+m=2*m:=by omega
 rw [e] at this
 have:((x*y).natAbs:Int)<((2^(2*m):Nat):Int):=by omega
 rw [Int.natCast_pow] at this
 exact Int.le_of_lt this
section
variable {h g o:aG} {T:Tb} {M:Nat->Nat->Int} {S:Nat->Rat} {K:VP} {m:Nat}
def A83:(prog.info? Ku).map (·.zero)=some (some (.agg #[.slice none 0 0,.slice none 0 0])):=by kernel_rfl
def B0j(t:Tab h g o T M S){i p c:Nat}{wb:IV}{d:Int}(hi:i<T.rows)(hp':p<T.rows)(hip:i≠p)(hc:c<T.cols)(ib:ZIr g wb d)(hd:d≠0)(hm1:1<=m)(hm:2*m+1<=100000000)(hMi:∀ b,b<T.cols->ZB m (M i b))(hMp:∀ b,b<T.cols->ZB m (M p b))(hdb:ZB m d)
 (hK:∀ h' g' o',g.le g'->Tab h' g' o' T (fun a b=>if a=i then (M p c*M i b-M i c*M p b).tdiv d else M a b) S->(∀ b,b≠T.bE->o' b=o b)->K (.tuple #[]) h'):aX prog A1a #[.pointer (some ⟨T.bt,0,none⟩),I (i:Int),I (p:Int),I (c:Int),wb.v] h K:=by
 refine B6d _ _ _ _ _ _ _ _ ?_
 unfold C0l
 refine Ga t hi ⟨_,_,_,rfl,Ga t hp' ⟨_,_,_,rfl,?_⟩⟩
 obtain ⟨wf,zf,f0,f1⟩:=t.at hi hc
 refine ⟨_,rfl,by omega,by omega,_,_,_,_,f0,f1,?_⟩
 refine ⟨fun L W=>∃ (k:Nat) (f q:aG),k<=T.cols/\L=[I k]/\g.le f/\Tab W f q T (fun a b=>if a=i/\b<k then (M p c*M i b-M i c*M p b).tdiv d else M a b) S/\∀ b,b≠T.bE->q b=o b,fun L _=>T.cols-(iAt L 0).toNat,⟨0,g,o,by omega,rfl,B4 _,t.congr (fun a b _ _=>by rw [iN (by omega)]) (fun _ _=>rfl),fun _ _=>rfl⟩,?_⟩
 rintro z hq ⟨k,f,q,hk,eL,J,l,D⟩
 obtain rfl:=sI1 eL
 have ew:B6 ((k:Int)+1)=((k+1:Nat):Int):=by have:=t.small;rw [B8]<;>omega
 refine B7 (fun af=>?_) (fun ae=>?_)
 ·have j:k<T.cols:=by omega
  obtain ⟨w1,V,d0,d1⟩:=l.at hi j
  rw [iN (by omega)] at V
  have same:(M p c*M i k-M i c*M p k).tdiv d=M i k->(∃ (k':Nat) (f q:aG),k'<=T.cols/\[I (B6 ((k:Int)+1))]=[I k']/\g.le f/\Tab hq f q T (fun a b=>if a=i/\b<k' then (M p c*M i b-M i c*M p b).tdiv d else M a b) S/\∀ b,b≠T.bE->q b=o b)/\T.cols-(iAt [I (B6 ((k:Int)+1))] 0).toNat<T.cols-(iAt [I (k:Int)] 0).toNat:=by
   intro e
   rw [ew]
   refine ⟨⟨k+1,f,q,by omega,rfl,J,l.congr (fun a b _ _=>?_) (fun _ _=>rfl),D⟩,by simp only [Bk];omega⟩
   by_cases r:a=i/\b<k
   ·rw [iP r,iP ⟨r.1,by omega⟩]
   ·rw [iN r]
    by_cases h2:a=i/\b<k+1
    ·obtain ⟨rfl,h3⟩:=h2
     have:b=k:=by omega
     subst this
     rw [iP ⟨rfl,by omega⟩,e]
    ·rw [iN h2]
  refine ⟨_,rfl,by omega,by omega,_,_,_,_,d0,d1,fun L W=>W=hq,?_,?_⟩
  ·refine G1 (V.mono l.sep.le) ⟨_,rfl,B7 (fun e1=>?_) (fun _=>rfl)⟩
   refine G1 (zf.mono (B0 J l.sep.le)) ⟨_,rfl,B7 (fun e2=>same (by rw [e1,e2];simp)) (fun _=>?_)⟩
   obtain ⟨w2,H,c0,c1⟩:=l.at hp' j
   rw [iN (by omega)] at H
   refine ⟨_,rfl,by omega,by omega,_,_,_,_,c0,c1,G1 (H.mono l.sep.le) ⟨_,rfl,B7 (fun e3=>same (by rw [e1,e3];simp)) (fun _=>rfl)⟩⟩
  ·rintro W rfl
   refine Dp A83 ?_
   intro bs A
   have X:f bs=none:=by
    cases hx:f bs with
    | none=>rfl
    | some y=>rw [l.sep.le _ _ hx] at A;cases A
   have s2:=l.sep.vis A (.cells #[.slice none 0 0,.slice none 0 0] Ku)
   have Z0:SumS (f.put bs (.cells #[.slice none 0 0,.slice none 0 0] Ku)) f bs Ku 200000001 0 0:=SumS.zero X
   obtain ⟨w3,z3,a0,a1⟩:=l.ato hp' hc
   obtain ⟨w2,H,c0,c1⟩:=l.ato hp' j
   rw [iN (by omega)] at H z3
   have Q:∀ {gg:aG} {w:IV} {x:Int},ZIr gg w x->ZB m x->w.n<=100000000:=fun i b=>ZI.len i b (by omega)
   have s:=hMp c hc
   have G:=hMi k j
   have C:=hMi c hc
   have E:=hMp k j
   have q1:=A66 s G
   have q2:=A66 C E
   have q0:=B2u (m:=m) (k:=2) hm1 (by omega)
   have l3:=Q z3 s
   have l1:=Q V G
   have lf:=Q zf C
   have l2:=Q H E
   refine ⟨_,rfl,_,rfl,by omega,by omega,_,_,_,_,s2.cell a0,s2.cell a1,?_⟩
   refine s2.call (Au Z0 z3 V (by omega) (by omega) (N1:=m) (by omega) (by omega) ?_)
   intro G3 g3 B Z3 H3 Z
   refine ⟨rfl,_,rfl,by omega,by omega,_,_,_,_,Z.cell c0,Z.cell c1,?_⟩
   refine Z.call (Sp Z3 (zf.mono (B0 J B)) (H.mono B) (by omega) (by omega) (N1:=m) (by omega) (by omega) ?_)
   intro G4 g4 aa Z4 H4 s4
   refine ⟨rfl,s4.call (Nh Z4 (by omega) ?_)⟩
   intro sv Av nv cv G5 O z5 H5 s5
   rw [Int.zero_add] at z5
   refine ⟨_,_,_,_,rfl,s4.le_le s5 O,?_⟩
   have u:f.le G5:=B0 B (B0 aa (B0 Z4.le O))
   have bz:ZB (2*m+1) (M p c*M i k-M i c*M p k):=((s.mul G).sub (C.mul E)).mono (by omega)
   refine s5.call (Q1 z5 (ib.mono (B0 J u)) bz (hdb.mono (by omega)) (by omega) hd ?_)
   intro s6 A6 n6 c6 G6 F z6 H6 N
   refine ⟨_,_,_,_,rfl,s5.le_le N F,_,rfl,by omega,by omega,?_⟩
   have t6:=l.next N (B0 u F)
   refine t6.store hi j (w:=⟨s6,A6,n6,c6⟩) z6 ?_
   intro H7 o7 t7 ad
   rw [ew]
   refine ⟨⟨k+1,G6,o7,by omega,rfl,B0 J (B0 u F),t7.congr (fun a b _ _=>?_) (fun _ _=>rfl),fun b R=>by rw [ad b R,D b R]⟩,by simp only [Bk];omega⟩
   show (if a=i/\b=k then (M p c*M i k-M i c*M p k).tdiv d else if a=i/\b<k then (M p c*M i b-M i c*M p b).tdiv d else M a b)=_
   grind
 ·have ac:k=T.cols:=by omega
  subst ac
  exact hK hq f q J (l.congr (fun a b _ R=>by
   by_cases r:a=i
   ·rw [iP ⟨r,R⟩,iP r]
   ·rw [iN (fun x=>r x.1),iN r]) (fun _ _=>rfl)) D
def B77(n:Nat)(s:PS)(h:s.cs=[]):∀ c,(Cs n s c).cs.length<=c:=by
 intro c
 induction c with
 | zero=>show s.cs.length<=0;rw [h];exact aF _
 | succ c ih=>
  show (Ie n c (Cs n s c)).cs.length<=c+1
  unfold Ie
  split
  ·show ((Cs n s c).cs++[c]).length<=c+1
   rw [aC]
   exact Nat.succ_le_succ ih
  ·omega
def A31(n:Nat)(s:PS)(h:s.last≠0)(hs:s.sgn=1\/s.sgn= -1)(hl:s.cs.length<=n):∀ c,(Cs n s c).last≠0/\((Cs n s c).sgn=1\/(Cs n s c).sgn= -1)/\(Cs n s c).cs.length<=n:=by
 intro c
 induction c with
 | zero=>exact ⟨h,hs,hl⟩
 | succ c ih=>
  obtain ⟨d,e,b⟩:=ih
  show (Ie n c (Cs n s c)).last≠0/\((Ie n c (Cs n s c)).sgn=1\/(Ie n c (Cs n s c)).sgn= -1)/\(Ie n c (Cs n s c)).cs.length<=n
  have f:=A60 n c (Cs n s c) b
  unfold Ie
  by_cases a:Ul n c (Cs n s c)<n
  ·rw [iP a]
   have:=A0q (fun i=>decide ((Cs n s c).M i c≠0)) (n-(Cs n s c).cs.length) (Cs n s c).cs.length (by unfold Ul at a;omega)
   refine ⟨by simpa [Ul] using this,?_,?_⟩
   ·show (if Ul n c (Cs n s c)=(Cs n s c).cs.length then (Cs n s c).sgn else -(Cs n s c).sgn)=1\/(if Ul n c (Cs n s c)=(Cs n s c).cs.length then (Cs n s c).sgn else -(Cs n s c).sgn)= -1
    split<;>omega
   ·show ((Cs n s c).cs++[c]).length<=n
    rw [aC]
    simp only [List.length_cons,List.length_nil]
    omega
  ·rw [iN a];exact ⟨d,e,b⟩
def O6{α:Type}[E:Enc α]{P:cV}{t e ty:bY}{z:cC}{bytes:Nat}(st:SliceT P t e z E.default.size bytes){h g o:aG}{A:Option aJ}{c n:Nat}{xs:List α}(s:Sep h g o)(w:OwnSl o e A c xs)(hxn:n=xs.length){v:cC}{y:α}(hv:v.cells=(enc y).toArray)(hsz:E.default.size<=1000)
 (hb:(2*(xs.length+1)+192)*bytes<=281474976710656) (hn:xs.length+1<=9223372036854775807) {K:Option aJ->Nat->Nat->aG->Prop}
 (x:∀ A' c' h' g' o',g.le g'->Sep h' g' o'->OwnSl o' e A' c' (xs++[y])->(∀ k u,o k=some u->A≠some ⟨k,0,none⟩->o' k=some u/\A'≠some ⟨k,0,none⟩)->K A' (xs.length+1) c' h'):
 wpH P (cI t 1 #[(0,v)]) (fun v' hp=>∃ (B:Option aJ) (m d:Nat),v'= .slice B m d/\wpH P (bL #[t,t] ty #[.slice A n c,.slice B m d]) (fun v1 hp1=>∃ (A':Option aJ) (n' c':Nat),v1= .slice A' n' c'/\K A' n' c' hp1) hp) h:=by
 subst hxn
 refine Jp _ (OwnSl.push (ty:=ty) st s w hv hsz hb hn (K1:=fun _=>True) (K:=K) (fun _ _=>trivial) x) ?_
 rintro v' hp ⟨B,m,d,e,_,a⟩
 exact ⟨B,m,d,e,a⟩
def Tab.own(t:Tab h g o T M S):(∃ x,o T.bt=some x)/\(∃ x,o T.bE=some x)/\∃ x,o T.bS=some x:=by
 obtain ⟨e,b⟩:=t.head
 obtain ⟨f,⟨l,i,c⟩,_⟩:=t.elems
 obtain ⟨k,⟨d,j,a⟩,_⟩:=t.scales
 exact ⟨⟨_,b⟩,⟨_,c⟩,⟨_,a⟩⟩
def Tab.keep(t:Tab h g o T M S){h' g' o':aG}(s:Sep h' g' o')(l:g.le g')(hk:∀ k x,o k=some x->k=T.bt\/k=T.bE\/k=T.bS->o' k=some x):Tab h' g' o' T M S:=by
 refine ⟨s,t.n1,t.n2,t.n3,?_,?_,?_,t.cE,t.cS,t.small,t.pos⟩
 ·obtain ⟨e,m⟩:=t.head
  exact ⟨e,hk _ _ m (.inl rfl)⟩
 ·obtain ⟨n,⟨e,ex,a⟩,b,c⟩:=t.elems
  refine ⟨n,⟨e,ex,hk _ _ a (.inr (.inl rfl))⟩,b,fun i j d p=>?_⟩
  obtain ⟨w,e,f⟩:=c i j d p
  exact ⟨w,e,Kk _ _ _ _ l f⟩
 ·obtain ⟨q,⟨e,ex,a⟩,b,c⟩:=t.scales
  exact ⟨q,⟨e,ex,hk _ _ a (.inr (.inr rfl))⟩,b,c.mono K9 l⟩
abbrev zs(l:List Nat):List Int:=l.map fun (n:Nat)=>(n:Int)
def C2y(T:Tb)(A:Option aJ):Prop:=A≠some ⟨T.bt,0,none⟩/\A≠some ⟨T.bE,0,none⟩/\A≠some ⟨T.bS,0,none⟩
def A39(t:Tab h g o T M S){c l nq:Nat}(hc:c<=T.cols)(hm1:1<=m)(hnq:∀ k,k<=c->(Cs T.rows ⟨M,S,[],1,1⟩ k).cs.length<=nq)(hm:2*(3^nq*m)+1<=100000000)(hz:ZbP T.rows T.cols m l ⟨M,S,[],1,1⟩)
 (hK:∀ h' g' o' A cap w,g.le g'->Tab h' g' o' T (Cs T.rows ⟨M,S,[],1,1⟩ c).M (Cs T.rows ⟨M,S,[],1,1⟩ c).S->OwnSl o' F3 A cap (zs (Cs T.rows ⟨M,S,[],1,1⟩ c).cs)->C2y T A->(∀ k x,o k=some x->k≠T.bE->k≠T.bS->o' k=some x/\A≠some ⟨k,0,none⟩)->ZIr g' w (Cs T.rows ⟨M,S,[],1,1⟩ c).last->
  K (.tuple #[.slice A (Cs T.rows ⟨M,S,[],1,1⟩ c).cs.length cap,w.v,I (Cs T.rows ⟨M,S,[],1,1⟩ c).sgn]) h'):aX prog Ov #[.pointer (some ⟨T.bt,0,none⟩),I (c:Int)] h K:=by
 refine B1a _ _ ?_
 unfold B69
 have a7:=t.small
 refine t.sep.call (Eg (by omega) (by omega) ?_)
 intro s1 A1 n1 c1 g1 l1 i1 h1 ag
 have t1:=t.next ag l1
 refine ⟨_,_,_,_,rfl,fun L hp=>∃ (k:Nat) (g' o':aG) (A:Option aJ) (cap:Nat) (w:IV),k<=c/\L=[.slice A (Cs T.rows ⟨M,S,[],1,1⟩ k).cs.length cap,I (Cs T.rows ⟨M,S,[],1,1⟩ k).sgn,I k,.bool w.s,.slice w.A w.n w.c]/\g.le g'/\Tab hp g' o' T (Cs T.rows ⟨M,S,[],1,1⟩ k).M (Cs T.rows ⟨M,S,[],1,1⟩ k).S/\OwnSl o' F3 A cap (zs (Cs T.rows ⟨M,S,[],1,1⟩ k).cs)/\C2y T A/\(∀ k x,o k=some x->k≠T.bE->k≠T.bS->o' k=some x/\A≠some ⟨k,0,none⟩)/\ZIr g' w (Cs T.rows ⟨M,S,[],1,1⟩ k).last,
  fun L _=>c-(iAt L 2).toNat,⟨0,g1,o,none,0,⟨s1,A1,n1,c1⟩,by omega,rfl,l1,t1,(OwnSl.nil:OwnSl o F3 none 0 ([]:List Int)),⟨by simp,by simp,by simp⟩,fun k x e _ _=>⟨e,by simp⟩,i1⟩,?_⟩
 rintro pA pn pc a0 z ls lA ln lc hp ⟨k,g2,o2,A,cap,w,hk,eL,lg,t2,ow,E,ko,iw⟩
 simp only [bF,cJ,cG,bC,true_and,and_true] at eL
 obtain ⟨⟨rfl,rfl,rfl⟩,rfl,rfl,rfl,rfl,rfl,rfl⟩:=eL
 have V:=A31 T.rows ⟨M,S,[],1,1⟩ (show (1:Int)≠0 by decide) (.inl rfl) (bU _) k
 have a1:=B77 T.rows ⟨M,S,[],1,1⟩ rfl k
 have Z:=hz.run hm1 k (by omega)
 refine B7 (fun a5=>?_) (fun a6=>?_)
 ·have a8:k<c:=by omega
  have N:k<T.cols:=by omega
  have ew:B6 ((k:Int)+1)=((k+1:Nat):Int):=by rw [B8]<;>omega
  have F:Cs T.rows ⟨M,S,[],1,1⟩ (k+1)=Ie T.rows k (Cs T.rows ⟨M,S,[],1,1⟩ k):=rfl
  have az:3^(Cs T.rows ⟨M,S,[],1,1⟩ k).cs.length*m<=3^nq*m:=aD _ (cQ (by decide) (hnq k (by omega)))
  have ae:=A0f (Cs T.rows ⟨M,S,[],1,1⟩ k).cs.length m hm1
  generalize hst0:Cs T.rows ⟨M,S,[],1,1⟩ k=st at *
  have G:fnd (fun i=>decide (st.M i k≠0)) (T.rows-st.cs.length) st.cs.length=Ul T.rows k st:=rfl
  have a4:=A60 T.rows k st V.2.2
  refine A3x t2 V.2.2 N (fun Q=>?_) (fun Q=>?_)
  ·rw [G] at Q ⊢
   have d:Ie T.rows k st={ M:=clr (fun i=>st.M (xch st.cs.length (Ul T.rows k st) i)) st.cs.length k st.last,S:=fun i=>st.S (xch st.cs.length (Ul T.rows k st) i),cs:=st.cs++[k],last:=st.M (Ul T.rows k st) k,sgn:=if Ul T.rows k st=st.cs.length then st.sgn else-st.sgn }:=by unfold Ie;rw [iP Q]
   generalize hr:Ul T.rows k st=r at *
   have u:st.cs.length<T.rows:=by omega
   refine ⟨_,_,rfl,fun L hq=>∃ (g3 W:aG),L=[I (if r=st.cs.length then st.sgn else-st.sgn)]/\g2.le g3/\Tab hq g3 W T (fun i=>st.M (xch st.cs.length r i)) (fun i=>st.S (xch st.cs.length r i))/\∀ b,b≠T.bE->b≠T.bS->W b=o2 b,?_,?_⟩
   ·refine J4 (fun ao=>?_) (fun an=>?_)
    ·have f:r≠st.cs.length:=by omega
     refine B27 t2 u Q (fun e=>f e.symm) ?_
     intro h3 W t3 X
     refine ⟨rfl,g2,W,?_,B4 _,t3,X⟩
     rw [iN f]
     have:B6 (0-st.sgn)= - st.sgn:=by rw [B8]<;>omega
     rw [this]
    ·have q:r=st.cs.length:=by omega
     refine ⟨g2,o2,by rw [iP q],B4 _,t2.congr (fun i j _ _=>?_) (fun i _=>?_),fun _ _ _=>rfl⟩
     ·rw [q];unfold xch;grind
     ·rw [q];unfold xch;grind
   ·rintro aw h4 ⟨g3,W,am,l3,t3,X⟩
    obtain rfl:aw=if r=st.cs.length then st.sgn else-st.sgn:=by simpa using am
    refine ⟨_,rfl,_,_,_,t3.c2,?_⟩
    have xk:xch st.cs.length r st.cs.length=r:=Tg _ _
    have ah:∀ i,i<T.rows->xch st.cs.length r i<T.rows:=fun i hi=>Rp u Q hi
    refine ⟨fun L hq=>∃ (i:Nat) (g4 R:aG),i<=T.rows/\L=[I i]/\g3.le g4/\Tab hq g4 R T (fun a b=>if a<i/\a≠st.cs.length then clr (fun i=>st.M (xch st.cs.length r i)) st.cs.length k st.last a b else st.M (xch st.cs.length r a) b) (fun i=>st.S (xch st.cs.length r i))/\∀ b,b≠T.bE->R b=W b,fun L _=>T.rows-(iAt L 0).toNat,⟨0,g3,W,by omega,rfl,B4 _,t3.congr (fun a b _ _=>by rw [iN (by omega)]) (fun _ _=>rfl),fun _ _=>rfl⟩,?_⟩
    rintro zi h5 ⟨i,g4,R,hi,ai,l4,t4,J⟩
    obtain rfl:=sI1 ai
    have aa:B6 ((i:Int)+1)=((i+1:Nat):Int):=by rw [B8]<;>omega
    refine B7 (fun a3=>?_) (fun a2=>?_)
    ·have ad:i<T.rows:=by omega
     refine J4 (fun ao=>?_) (fun an=>?_)
     ·have f:i≠st.cs.length:=by omega
      refine B0j (m:=3^st.cs.length*m) t4 ad u f N (Kk _ _ _ _ (B0 l3 l4) iw) V.1 ae (by omega) (fun b H=>?_) (fun b H=>?_) Z.last ?_
      ·rw [iN (by omega)];exact Z.M _ b (ah i ad) H
      ·rw [iN (by omega),xk];exact Z.M r b Q H
      intro h6 g6 o6 l6 t6 af
      refine ⟨rfl,?_⟩
      rw [aa]
      refine ⟨⟨i+1,g6,o6,by omega,rfl,B0 l4 l6,t6.congr (fun a b _ _=>?_) (fun _ _=>rfl),fun b H=>by rw [af b H,J b H]⟩,by simp only [Bk];omega⟩
      show (if a=i then ((if st.cs.length<i/\st.cs.length≠st.cs.length then _ else st.M (xch st.cs.length r st.cs.length) k)*(if i<i/\i≠st.cs.length then _ else st.M (xch st.cs.length r i) b)-(if i<i/\i≠st.cs.length then _ else st.M (xch st.cs.length r i) k)*(if st.cs.length<i/\st.cs.length≠st.cs.length then _ else st.M (xch st.cs.length r st.cs.length) b)).tdiv st.last else if a<i/\a≠st.cs.length then clr (fun i=>st.M (xch st.cs.length r i)) st.cs.length k st.last a b else st.M (xch st.cs.length r a) b)=if a<i+1/\a≠st.cs.length then clr (fun i=>st.M (xch st.cs.length r i)) st.cs.length k st.last a b else st.M (xch st.cs.length r a) b
      rw [iN (show ¬ (st.cs.length<i/\st.cs.length≠st.cs.length) by omega),iN (show ¬ (i<i/\i≠st.cs.length) by omega),iN (show ¬ (i<i/\i≠st.cs.length) by omega),iN (show ¬ (st.cs.length<i/\st.cs.length≠st.cs.length) by omega)]
      by_cases ea:a=i
      ·subst ea
       rw [iP rfl,iP ⟨by omega,f⟩]
       unfold clr
       rw [iN f]
      ·rw [iN ea]
       by_cases D:a<i/\a≠st.cs.length
       ·rw [iP D,iP ⟨by omega,D.2⟩]
       ·rw [iN D,iN (by omega)]
     ·have q:i=st.cs.length:=by omega
      rw [aa]
      refine ⟨⟨i+1,g4,R,by omega,rfl,l4,t4.congr (fun a b _ _=>?_) (fun _ _=>rfl),J⟩,by simp only [Bk];omega⟩
      by_cases D:a<i/\a≠st.cs.length
      ·rw [iP D,iP ⟨by omega,D.2⟩]
      ·rw [iN D,iN (by omega)]
    ·have ay:i=T.rows:=by omega
     subst ay
     have tF:Tab h5 g4 R T (clr (fun i=>st.M (xch st.cs.length r i)) st.cs.length k st.last) (fun i=>st.S (xch st.cs.length r i)):=t4.congr (fun a b ha _=>by
      by_cases D:a=st.cs.length
      ·rw [iN (by omega),D];unfold clr;rw [iP rfl]
      ·rw [iP ⟨ha,D⟩]) (fun _ _=>rfl)
     refine Ga tF u ⟨_,_,_,rfl,_,rfl,by omega,by omega,?_⟩
     obtain ⟨wl,zl,d0,d1⟩:=tF.at u N
     have ar:ZIr g4 wl (st.M r k):=by
      have:clr (fun i=>st.M (xch st.cs.length r i)) st.cs.length k st.last st.cs.length k=st.M r k:=by unfold clr;rw [iP rfl];show st.M (xch st.cs.length r st.cs.length) k=_;rw [xk]
      rw [this] at zl;exact zl
     refine ⟨_,_,_,_,d0,d1,?_⟩
     have B:∀ b,b≠T.bE->b≠T.bS->R b=o2 b:=fun b h1 h2=>by rw [J b h1,X b h1 h2]
     have aj:OwnSl R F3 pA pc (zs st.cs):=ow.keep fun b x hA H=>by
      rw [B b (fun e=>E.2.1 (by rw [<- e];exact hA)) (fun e=>E.2.2 (by rw [<- e];exact hA))];exact H
     have C:(zs st.cs).length=st.cs.length:=by simp
     refine O6 (ty:=Fs) C3a tF.sep aj (by simp) (y:=((k:Nat):Int)) rfl (by decide) (by rw [C];omega) (by rw [C];omega) ?_
     intro A' c' h' g' o' O s' ak p
     obtain ⟨⟨x1,au⟩,⟨x2,ax⟩,⟨x3,av⟩⟩:=tF.own
     have t':=tF.keep s' O (fun kk x e aq=>by
      rcases aq with rfl|rfl|rfl
      ·exact (p _ _ e E.1).1
      ·exact (p _ _ e E.2.1).1
      ·exact (p _ _ e E.2.2).1)
     rw [C,ew]
     have ac:(st.cs++[k]).length=st.cs.length+1:=by simp
     refine ⟨⟨k+1,g',o',A',c',wl,by omega,?_,B0 lg (B0 l3 (B0 l4 O)),?_⟩,?_⟩
     ·rw [F,d,ac]
     ·rw [F,d]
      refine ⟨t',by simpa [zs] using ak,⟨(p _ _ au E.1).2,(p _ _ ax E.2.1).2,(p _ _ av E.2.2).2⟩,fun kk x e h1 h2=>?_,Kk _ _ _ _ O ar⟩
      obtain ⟨e2,al⟩:=ko kk x e h1 h2
      exact p kk x (by rw [B kk h1 h2];exact e2) al
     ·show c-((k+1:Nat):Int).toNat<c-((k:Nat):Int).toNat
      omega
  ·rw [G] at Q
   have d:Ie T.rows k st=st:=by unfold Ie;rw [iN (by omega)]
   refine ⟨_,_,rfl,?_⟩
   rw [ew]
   refine ⟨⟨k+1,g2,o2,pA,pc,w,by omega,by rw [F,d],lg,?_⟩,?_⟩
   ·rw [F,d];exact ⟨t2,ow,E,ko,iw⟩
   ·show c-((k+1:Nat):Int).toNat<c-((k:Nat):Int).toNat
    omega
 ·have:k=c:=by omega
  subst this
  exact hK hp g2 o2 pA pc w lg t2 ow E ko iw
end
section
variable {h:aG} {K:VP} {A B:Option aJ} {n c n' c' m:Nat} {s s':Bool} {x y:Int}
def C0y:RQ h ⟨false,none,0,0,false,none,0,0⟩ 0:=⟨ZI.zero,ZI.zero⟩
def A87{z:Int}(i:ZI h s A n c z):RQ h ⟨s,A,n,c,false,none,0,0⟩ (z:Rat):=⟨by simpa using i,by simpa using ZI.zero⟩
def Bs(gl:Gtz h)(ix:ZI h s A n c x)(iy:ZI h s' B n' c' y)(hx:ZB m x)(hy:ZB m y)(hm:m<=6400000000)(hK:∀ w h',h.le h'->RQ h' w (cD x y)->K w.v h'):aX prog Y5 #[.agg #[.bool s,.slice A n c],.agg #[.bool s',.slice B n' c']] h K:=by
 refine A4u _ _ _ _ _ _ _ _ ?_
 unfold A4v
 refine ⟨fun L Q=>Q=h/\((L=[.bool true]/\cD x y=0)\/(L=[.bool false]/\y≠0)),?_,?_⟩
 ·refine G1 iy ⟨_,rfl,B7 (fun e=>⟨rfl,.inl ⟨rfl,by rw [e];exact Rat.divInt_zero x⟩⟩) (fun e=>G1 ix ⟨_,rfl,rfl,?_⟩)⟩
  by_cases p:x=0
  ·exact .inl ⟨by rw [decide_eq_true p],by rw [p];exact Rat.zero_divInt y⟩
  ·exact .inr ⟨by rw [decide_eq_false p],e⟩
 rintro t Q ⟨rfl,W⟩
 refine Br.of (fun e=>?_) (fun e=>?_)
 ·rcases W with ⟨_,R⟩|⟨j,_⟩
  ·rw [R] at hK
   exact hK _ _ (B4 _) C0y
  ·simp at j;rw [e] at j;cases j
 have ad:y≠0:=by
  rcases W with ⟨j,_⟩|⟨_,R⟩
  ·simp at j;rw [e] at j;cases j
  ·exact R
 refine ⟨fun l D=>∃ s A n c s' B n' c' d f,l=[.bool s,.slice A n c,.bool s',.slice B n' c']/\Q.le D/\ZI D s A n c d/\ZI D s' B n' c' f/\0<f/\cD d f=cD x y/\ZB m d/\ZB m f,?_,?_⟩
 ·refine Ef iy ⟨_,rfl,B7 (fun e=>?_) (fun e=>?_)⟩
  ·have X:y<0:=by rwa [Int.sign_neg_iff] at e
   refine U2 ix ?_
   intro V u
   refine ⟨_,_,_,_,rfl,B4 _,?_⟩
   refine U2 iy ?_
   intro s2 r
   exact ⟨_,_,_,_,rfl,B4 _,_,_,_,_,_,_,_,_,-x,-y,rfl,B4 _,u,r,by omega,Rat.neg_divInt_neg x y,hx.neg,hy.neg⟩
  ·have g:0<y:=by rw [Int.sign_neg_iff] at e;omega
   exact ⟨_,_,_,_,_,_,_,_,x,y,rfl,B4 _,ix,iy,g,rfl,hx,hy⟩
 rintro V A1 n1 c1 s2 A2 n2 c2 ac ⟨N,A1',M,O,J,A2',G,S,d,f,hl,i,u,r,g,D,z,k⟩
 obtain ⟨rfl,⟨rfl,rfl,rfl⟩,rfl,rfl,rfl,rfl⟩:V=N/\(A1=A1'/\n1=M/\c1=O)/\s2=J/\A2=A2'/\n2=G/\c2=S:=by simpa using hl
 rw [<- D] at hK
 refine Q3 r ⟨_,rfl,B7 (fun Z=>?_) (fun Z=>?_)⟩
 ·rw [Z,Rc] at hK
  exact hK _ _ i (A87 u)
 refine Cm (gl.mono i) u r z k hm ?_
 intro A3 n3 c3 h3 o F
 refine ⟨_,_,_,_,rfl,?_⟩
 generalize hqq:cD d f=q at *
 have b:q.num=d/(dJ d f:Int):=by
  rw [<- hqq,Rat.num_divInt,Int.sign_eq_one_of_pos g,Int.one_mul,Int.gcd_comm]
 have a:(q.den:Int)=f/(dJ d f:Int):=by
  rw [<- hqq,Rat.den_divInt,iN (by omega),Int.gcd_comm,Int.natCast_ediv,Int.natAbs_of_nonneg (by omega)]
 have aa:0<dJ d f:=Int.gcd_pos_of_ne_zero_right d (by omega)
 have C:ZB m (dJ d f:Int):=ZB.gcd (by omega) k
 refine Q3 F ⟨_,rfl,R2 (B7 (fun p=>?_) (fun p=>?_))⟩
 ·rw [p] at b a
  simp at b a
  refine T2 (q:=q) (u.mono o) (r.mono o) b a ?_
  intro w T
  exact ⟨_,_,_,_,_,_,_,_,rfl,hK _ _ (B0 i o) T⟩
 ·refine Q1 (u.mono o) F z C hm (by omega) ?_
  intro s4 A4 n4 c4 h4 E i4
  refine ⟨_,_,_,_,rfl,E,?_⟩
  refine Q1 ((r.mono o).mono E) (F.mono E) k C hm (by omega) ?_
  intro s5 A5 n5 c5 h5 H i5
  refine ⟨_,_,_,_,rfl,H,?_⟩
  refine T2 (q:=q) (i4.mono H) i5 (by rw [b,dP (Int.gcd_dvd_left d f)]) (by rw [a,dP (Int.gcd_dvd_right d f)]) ?_
  intro w T
  exact ⟨_,_,_,_,_,_,_,_,rfl,hK _ _ (B0 i (B0 o (B0 E H))) T⟩
end
section
variable {α:Type} [E:Enc α]
def OwnSl.store{P:cV}{t e:bY}(one:P.cellsOf t=E.default.size/\(P.info? t).isSome=true){v:cC}{y:α}(hv:v.cells=(enc y).toArray){h g o:aG}{A:Option aJ}{c:Nat}{xs:List α}(s:Sep h g o)(w:OwnSl o e A c xs){i b:Nat}(hi:i<xs.length)(hA:A=some ⟨b,0,none⟩){K:Unit->aG->Prop}
 (x:∀ h' o',Sep h' g o'->OwnSl o' e A c (xs.set i y)->(∀ k,k≠b->o' k=o k)->K () h'):wpH P (aT t (.pointer (some (aE ⟨b,0,none⟩ (i*E.default.size)))) v) K h:=by
 rcases w.2 with ⟨D,_⟩|⟨F,f,d,p,q,u⟩
 ·exfalso;have:=w.1;omega
 ·rw [hA] at d
  simp only [aQ,aZ,and_true] at d
  subst d
  obtain ⟨ex,hex⟩:∃ ex,f=xs.flatMap enc++ex:=⟨f.drop (xs.length*E.default.size),by rw [<- u,List.take_append_drop]⟩
  rw [hex] at p q
  obtain ⟨C,j⟩:=Option.isSome_iff_exists.1 one.2
  have B:C.size=E.default.size:=by simpa [Program.cellsOf,j] using one.1
  have n:=E.default.len y
  have m:(i+1)*E.default.size<=xs.length*E.default.size:=aD _ hi
  rw [aK,aM] at m
  have a:(h.without b).put b (.cells (xs.flatMap enc++ex).toArray e)=h:=J5 (s.own b _ p)
  unfold aT
  simp only [C5,Instr.sureAddr,F8,storeVar,L0 j,B,hv,List.size_toArray,n,ne_eq,not_true_eq_false,if_false]
  rw [E6,aN,<- a]
  refine J0 (enc y) (i*E.default.size) 0 _ (by rw [aC,H9,n];omega) (E.default.one y) ?_
  have l:L6 (xs.flatMap enc++ex) (i*E.default.size+0) (enc y)=(xs.set i y).flatMap enc++ex:=by
   rw [cY,<- Tm xs hi]
   unfold L6
   rw [dF (by rw [H9];omega),List.drop_append_of_le_length (by rw [H9,n];omega),dE,dE,dE]
  rw [l]
  have r:(h.without b).put b (.cells ((xs.set i y).flatMap enc++ex).toArray e)=h.put b (.cells ((xs.set i y).flatMap enc++ex).toArray e):=by
   rw [<- a,Ds,a]
  rw [r]
  refine x _ _ (s.upd p _) ⟨by simpa using w.1,.inr ⟨b,(xs.set i y).flatMap enc++ex,hA,C0 _ _ _,?_,?_⟩⟩ (fun k z=>B9 _ _ z)
  ·rw [aC,H9] at q ⊢
   simpa using q
  ·rw [dF (by rw [H9];omega),List.take_of_length_le (by rw [H9];omega)]
end
section
variable {h g:aG} {K:VP} {A:Option aJ} {n c cols:Nat}
def B64(h:aG)(v:cC)(A:Option aJ)(n c cols:Nat):Prop:=∃ f0 f1:aJ,v= .func (.func Ir) #[] #[.pointer (some f0),.pointer (some f1)]/\h.cell? f0=some (.slice A n c)/\h.cell? f1=some (I (cols:Int))
def Yu(hc:1<=cols)(hK:∀ v h',h.le h'->B64 h' v A n c cols->K v h'):aX prog Ts #[.slice A n c,I (cols:Int)] h K:=by
 refine B60 _ _ _ _ ?_
 unfold C0b
 refine A72 ?_
 intro b f
 refine ⟨_,rfl,A72 ?_⟩
 intro d a
 have c1:Heap.cell? ((h.put b (.cells (cL (.slice A n c)) U6)).put d (.cells (cL (I (cols:Int))) 3)) ⟨d,0,none⟩=some (I (cols:Int)):=by rw [E5];rfl
 refine ⟨_,rfl,_,c1,B7 (fun e=>by omega) (fun _=>hK _ _ (B0 (Heap.le_put _ f) (Heap.le_put _ a)) ⟨⟨b,0,none⟩,⟨d,0,none⟩,rfl,?_,c1⟩)⟩
 refine B5 (Heap.le_put _ a) ?_
 rw [E5];rfl
def Un{g0:aG}{v:cC}{rows:Nat}(ic:B64 g0 v A (rows*cols) c cols)(hc:1<=cols)(hn:rows*cols<=1000000000)(hcap:rows*cols<=c){B:List cC->aG->(aG->Prop)->Prop}{K:aG->Prop}(J:Nat->aG->Prop)(h0:J 0 h)(hle:∀ k h,J k h->g0.le h)
 (hB:∀ k h1,k<rows->J k h1->B [.slice (K5 A ((k+1)*cols) (k*cols) 4) cols cols] h1 (J (k+1))) (hK:∀ h1,J rows h1->K h1):A4w prog v h B K:=by
 obtain ⟨g,j,rfl,G,w⟩:=ic
 refine ⟨Ir,#[],#[.pointer (some g),.pointer (some j)],rfl,A23,?_⟩
 intro l rec H a
 have F:(#[] ++ #[.func (.yield l) #[] #[]] ++ #[.pointer (some g),.pointer (some j)]:Array cC)=#[.func (.yield l) #[] #[],.pointer (some g),.pointer (some j)]:=by simp
 rw [F]
 refine B18 l g j ?_
 unfold B61
 refine ⟨fun L x=>∃ (k:Nat) (h1:aG),k<=rows/\L=[I ((k*cols:Nat):Int)]/\h1 l=none/\x=h1.put l (.loop rec)/\J k h1,fun L _=>rows*cols-(iAt L 0).toNat,⟨0,h,by omega,by simp,H,rfl,h0⟩,?_⟩
 rintro i x ⟨k,h1,O,y,b,rfl,m⟩
 obtain rfl:i=((k*cols:Nat):Int):=by simpa using y
 have u:=B0 (hle k h1 m) (Heap.le_put (.loop rec) b)
 have n:=B5 u G
 have D:=B5 u w
 refine ⟨_,_,_,n,B7 (fun M=>?_) (fun z=>?_)⟩
 ·have f:k<rows:=by
   by_cases p:k<rows
   ·exact p
   ·exfalso
    have:rows*cols<=k*cols:=aD _ (by omega)
    omega
  have N:(k+1)*cols<=rows*cols:=aD _ f
  have R:(k+1)*cols=k*cols+cols:=by rw [aK,aM]
  have C:(if ((rows*cols-(((k*cols:Nat):Int)).toNat:Nat):Int)<(cols:Int) then ((rows*cols-(((k*cols:Nat):Int)).toNat:Nat):Int) else (cols:Int))=(cols:Int):=by
   rw [iN (by simp only [aH];omega)]
  have s:B6 (((k*cols:Nat):Int)+(cols:Int))=(((k+1)*cols:Nat):Int):=by rw [B8]<;>omega
  refine ⟨_,D,_,_,_,n,⟨by omega,by omega⟩,_,_,_,n,?_⟩
  rw [C,s]
  simp only [aH]
  have E:(k+1)*cols-k*cols=cols:=by omega
  rw [E]
  refine ⟨⟨by omega,by omega⟩,⟨by omega,by omega⟩,⟨by omega,by omega⟩,?_⟩
  refine (a _ h1 (J (k+1)) b (hB k h1 f m)).mono ?_
  rintro r Q ⟨rfl,t,e,rfl,d⟩
  refine ⟨_,rfl,?_⟩
  show ∃ (t11:Int),_
  have q:=B0 (hle _ t d) (Heap.le_put (.loop rec) e)
  refine ⟨_,B5 q w,?_⟩
  rw [s]
  exact ⟨⟨k+1,t,by omega,rfl,e,rfl,d⟩,by simp only [Bk];omega⟩
 ·have o:k=rows:=by
   by_cases p:k=rows
   ·exact p
   ·exfalso
    have:(k+1)*cols<=rows*cols:=aD _ (by omega)
    rw [aK,aM] at this
    omega
  subst o
  exact ⟨h1,b,rfl,hK h1 m⟩
end
section
variable {α:Type} [E:Enc α]
def Wu{P:cV}{t e:bY}{z:cC}{bytes:Nat}(st:SliceT P t e z E.default.size bytes){h g o:aG}{A:Option aJ}{c:Nat}{xs:List α}(s:Sep h g o)(w:OwnSl o e A c xs){v:cC}{y:α}(hv:v.cells=(enc y).toArray)(hsz:E.default.size<=1000)
 (hb:(2*(xs.length+1)+192)*bytes<=281474976710656) (hn:xs.length+1<=9223372036854775807) {K:VP}
 (x0:∀ B m d hp,h.le hp->(∀ {ty:bY} {K2:VP},(∀ A' c' h' g' o',g.le g'->Sep h' g' o'->OwnSl o' e A' c' (xs++[y])->(∀ k u,o k=some u->A≠some ⟨k,0,none⟩->o' k=some u/\A'≠some ⟨k,0,none⟩)->K2 (.slice A' (xs.length+1) c') h')->wpH P (bL #[t,t] ty #[.slice A xs.length c,.slice B m d]) K2 hp)->K (.slice B m d) hp):
 wpH P (cI t 1 #[(0,v)]) K h:=by
 obtain ⟨gb,p,H⟩:=w.priv s
 refine Ny st (vs:=[v]) (fun u hu=>by rw [List.mem_singleton.1 hu,hv];simp [E.default.len]) rfl (by simp;omega) rfl ?_
 intro b i
 have V:[v].flatMap (fun v=>v.cells.toList)=[y].flatMap enc:=by simp [hv]
 rw [V]
 refine x0 _ _ _ _ (Heap.le_put _ i) (fun {ty K2} x=>?_)
 have p':PrivF (h.put b (.cells ([y].flatMap enc).toArray e)) (gb.put b (.cells ([y].flatMap enc).toArray e)) e A c xs:=Priv.put p i _
 refine Kf st p' (ys:=[y]) rfl (Ly e h b [y]) hb hn ?_
 intro A' c' h' g' hg hp
 rw [aC]
 have G:∀ k u,h k=some u->A≠some ⟨k,0,none⟩->g' k=some u:=by
  intro k u a S
  have f:k≠b:=by rintro rfl;rw [i] at a;cases a
  exact hg k u (by rw [B9 _ _ f];exact H k u a S)
 have N:∀ k u,g k=some u->A≠some ⟨k,0,none⟩:=by
  intro k u a n
  rcases w.2 with ⟨_,X⟩|⟨j,q,l,r,_⟩
  ·rw [n] at X;cases X
  ·rw [n] at l
   simp only [aQ,aZ,and_true] at l
   subst l
   rw [s.dis k _ r] at a;cases a
 rcases hp.2.2 with ⟨aa,_⟩|⟨j,q,l,r,M,ha,ht⟩
 ·exfalso
  have:=hp.2.1
  rw [aC] at this
  simp at this
  omega
 ·subst l
  let o':aG:=fun k=>if k=j then some (.cells (cP q) e) else if A=some ⟨k,0,none⟩ then none else o k
  have W:o' j=some (.cells (cP q) e):=by show (if j=j then _ else _)=_;rw [iP rfl]
  have T:∀ k,k≠j->A≠some ⟨k,0,none⟩->o' k=o k:=fun k J C=>by show (if k=j then _ else if _ then _ else _)=_;rw [iN J,iN C]
  have R:∀ k,k≠j->A=some ⟨k,0,none⟩->o' k=none:=fun k J C=>by show (if k=j then _ else if _ then _ else _)=_;rw [iN J,iP C]
  let g2:aG:=fun k=>match o' k with|some _=>none|none=>h' k
  have gs:∀ k u,o' k=some u->g2 k=none:=fun k u a=>by show (match o' k with|some _=>none|none=>h' k)=_;rw [a]
  have gn:∀ k,o' k=none->g2 k=h' k:=fun k a=>by show (match o' k with|some _=>none|none=>h' k)=_;rw [a]
  have D:∀ k u,k≠j->g' k=some u->h' k=some u:=fun k u J a=>by rw [M,B9 _ _ J];exact a
  have L:∀ k u,o k=some u->A≠some ⟨k,0,none⟩->k≠j:=by
   rintro k u a C rfl
   have:=G k u (s.own k u a) C
   rw [r] at this;cases this
  refine x _ c' h' g2 o' (fun k u a=>?_) ⟨fun k u a=>?_,fun k a=>(gn k a).symm,gs⟩ ⟨hp.2.1,.inr ⟨j,q,rfl,W,ha,ht⟩⟩ (fun k u a C=>?_)
  ·have O:o k=none:=by
    cases ho:o k with
    | none=>rfl
    | some y=>rw [s.dis k y ho] at a;cases a
   have n:=N k u a
   have Q:=G k u (s.le k u a) n
   have F:k≠j:=by rintro rfl;rw [r] at Q;cases Q
   rw [gn k (by rw [T k F n];exact O)]
   exact D k u F Q
  ·by_cases f:k=j
   ·subst f
    rw [W] at a;cases a
    rw [M,C0]
   ·by_cases n:A=some ⟨k,0,none⟩
    ·rw [R k f n] at a;cases a
    ·rw [T k f n] at a
     exact D k u f (G k u (s.own k u a) n)
  ·have f:=L k u a C
   refine ⟨by rw [T k f C];exact a,fun Z=>f ?_⟩
   simp only [aQ,aZ,and_true] at Z
   exact Z.symm
end
def A1t{P:cV}{t:bY}(one:P.cellsOf t=1/\(P.info? t).isSome=true){v:cC}(hv:A8e v=true)(hc:v.cells=#[v]){h g o:aG}(s:Sep h g o){b:Nat}{cs:Array cC}{e:bY}(hb:o b=some (.cells cs e)){i:Nat}(hi:i<cs.size){K:Unit->aG->Prop}
 (x:∀ h' o',Sep h' g o'->o'=o.put b (.cells (cs.setIfInBounds i v) e)->K () h'):wpH P (aT t (.pointer (some (aE ⟨b,0,none⟩ i))) v) K h:=by
 rw [E6,aN]
 have a:h.put b (.cells cs e)=h:=A25 (s.own b _ hb)
 rw [<- a]
 refine Em one.1 one.2 hv hc hi ?_
 exact x _ _ (s.upd hb _) rfl
structure NT (o:aG) (bp bt cols:Nat) (es:List IV) (ss:List QV) (A:Option aJ) (c:Nat) (A':Option aJ) (c':Nat):Prop where
 hp:∃ e,o bp=some (.cells #[.pointer (some ⟨bt,0,none⟩)] e)
 ht:∃ e,o bt=some (.cells #[I (cols:Int),.slice A es.length c,.slice A' ss.length c'] e)
 oe:OwnSl o Fn A c es
 os:OwnSl o K6 A' c' ss
 ne:bp≠bt
 a1:A≠some ⟨bp,0,none⟩/\A≠some ⟨bt,0,none⟩
 a2:A'≠some ⟨bp,0,none⟩/\A'≠some ⟨bt,0,none⟩
 a3:∀ b,A=some ⟨b,0,none⟩->A'≠some ⟨b,0,none⟩
section
variable {h g o:aG} {bp bt cols:Nat} {es:List IV} {ss:List QV} {A A':Option aJ} {c c':Nat}
def NT.cp(n:NT o bp bt cols es ss A c A' c')(s:Sep h g o):h.cell? ⟨bp,0,none⟩=some (.pointer (some ⟨bt,0,none⟩)):=by
 obtain ⟨e,a⟩:=n.hp
 refine s.cell ?_
 unfold Heap.cell?;simp only [a];rfl
def NT.c1(n:NT o bp bt cols es ss A c A' c')(s:Sep h g o):h.cell? (aE ⟨bt,0,none⟩ 1)=some (.slice A es.length c):=by
 obtain ⟨e,a⟩:=n.ht
 refine s.cell ?_
 rw [E6];unfold Heap.cell?;simp only [a];rfl
def NT.c2(n:NT o bp bt cols es ss A c A' c')(s:Sep h g o):h.cell? (aE ⟨bt,0,none⟩ 2)=some (.slice A' ss.length c'):=by
 obtain ⟨e,a⟩:=n.ht
 refine s.cell ?_
 rw [E6];unfold Heap.cell?;simp only [a];rfl
def B71:prog.cellsOf Rr=1/\(prog.info? Rr).isSome=true:=by constructor<;>kernel_rfl
def B70:prog.cellsOf U6=1/\(prog.info? U6).isSome=true:=by constructor<;>kernel_rfl
def NT.buildE(n:NT o bp bt cols es ss A c A' c')(s:Sep h g o)(w:IV)(hl:es.length<=100000000){F:aG->Prop}(hF:∀ h' g' o' A2 c2,g.le g'->Sep h' g' o'->NT o' bp bt cols (es++[w]) ss A2 c2 A' c'->F h'){K:VP}
 (x:∀ B m d hp,h.le hp->hp.cell? ⟨bp,0,none⟩=some (.pointer (some ⟨bt,0,none⟩))->(∀ {K2:VP},(∀ A2 c2 h2,h2.cell? ⟨bp,0,none⟩=some (.pointer (some ⟨bt,0,none⟩))->wpH prog (aT Rr (.pointer (some (aE ⟨bt,0,none⟩ 1))) (.slice A2 (es.length+1) c2)) (fun _ h3=>F h3) h2->K2 (.slice A2 (es.length+1) c2) h2)->wpH prog (bL #[Rr,Rr] Rr #[.slice A es.length c,.slice B m d]) K2 hp)->K (.slice B m d) hp):
 wpH prog (cI Rr 1 #[(0,w.v)]) K h:=by
 refine Wu tZs s n.oe (y:=w) rfl (by decide) (by omega) (by omega) ?_
 intro B m d hp G l
 refine x B m d hp G (B5 G (n.cp s)) (fun {K2} p=>l ?_)
 intro A2 c2 h2 V D O J R keep
 obtain ⟨Q,q⟩:=n.hp
 obtain ⟨N,t⟩:=n.ht
 have u:=keep bp _ q n.a1.1
 have C:=keep bt _ t n.a1.2
 refine p A2 c2 h2 ?_ ?_
 ·refine J.cell ?_
  unfold Heap.cell?;simp only [u.1];rfl
 ·refine A1t B71 rfl rfl J C.1 (by simp) ?_
  intro h3 L M H
  have r:∀ k,k≠bt->L k=D k:=fun k p=>by rw [H,B9 _ _ p]
  refine hF h3 V L A2 c2 O M ⟨⟨Q,by rw [r _ n.ne];exact u.1⟩,⟨N,by rw [H,C0];simp⟩,R.keep fun b y f i=>by rw [r b (fun e=>C.2 (by rw [<- e];exact f))];exact i,?_,n.ne,⟨u.2,C.2⟩,n.a2,?_⟩
  ·refine (n.os.keep (o':=D) fun b y f i=>(keep b y i (fun e=>n.a3 b e f)).1).keep fun b y f i=>by rw [r b (fun e=>n.a2.2 (by rw [<- e];exact f))];exact i
  ·intro b f a
   rcases n.os.2 with ⟨_,S⟩|⟨E,T,j,z,_⟩
   ·rw [S] at a;cases a
   ·rw [j] at a
    simp only [aQ,aZ,and_true] at a
    subst a
    exact (keep E _ z (fun e=>n.a3 E e j)).2 f
def NT.buildS(n:NT o bp bt cols es ss A c A' c')(s:Sep h g o)(w:QV)(hl:ss.length<=100000000){F:aG->Prop}(hF:∀ h' g' o' A2 c2,g.le g'->Sep h' g' o'->NT o' bp bt cols es (ss++[w]) A c A2 c2->F h'){K:VP}
 (x:∀ B m d hp,h.le hp->hp.cell? ⟨bp,0,none⟩=some (.pointer (some ⟨bt,0,none⟩))->(∀ {K2:VP},(∀ A2 c2 h2,h2.cell? ⟨bp,0,none⟩=some (.pointer (some ⟨bt,0,none⟩))->wpH prog (aT U6 (.pointer (some (aE ⟨bt,0,none⟩ 2))) (.slice A2 (ss.length+1) c2)) (fun _ h3=>F h3) h2->K2 (.slice A2 (ss.length+1) c2) h2)->wpH prog (bL #[U6,U6] U6 #[.slice A' ss.length c',.slice B m d]) K2 hp)->K (.slice B m d) hp):
 wpH prog (cI U6 1 #[(0,w.v)]) K h:=by
 refine Wu B25 s n.os (y:=w) rfl (by decide) (by omega) (by omega) ?_
 intro B m d hp D i
 refine x B m d hp D (B5 D (n.cp s)) (fun {K2} j=>i ?_)
 intro A2 c2 h2 T z N H Q keep
 obtain ⟨O,l⟩:=n.hp
 obtain ⟨M,q⟩:=n.ht
 have r:=keep bp _ l n.a2.1
 have u:=keep bt _ q n.a2.2
 refine j A2 c2 h2 ?_ ?_
 ·refine H.cell ?_
  unfold Heap.cell?;simp only [r.1];rfl
 ·refine A1t B70 rfl rfl H u.1 (by simp) ?_
  intro h3 J L E
  have p:∀ k,k≠bt->J k=z k:=fun k j=>by rw [E,B9 _ _ j]
  refine hF h3 T J A2 c2 N L ⟨⟨O,by rw [p _ n.ne];exact r.1⟩,⟨M,by rw [E,C0];simp⟩,?_,Q.keep fun b y a f=>by rw [p b (fun e=>u.2 (by rw [<- e];exact a))];exact f,n.ne,n.a1,⟨r.2,u.2⟩,?_⟩
  ·refine (n.oe.keep (o':=z) fun b y a f=>(keep b y f (fun e=>n.a3 b a e)).1).keep fun b y a f=>by rw [p b (fun e=>n.a1.2 (by rw [<- e];exact a))];exact f
  ·intro b a
   rcases n.oe.2 with ⟨_,R⟩|⟨C,S,G,t,_⟩
   ·rw [R] at a;cases a
   ·rw [G] at a
    simp only [aQ,aZ,and_true] at a
    subst a
    exact (keep C _ t (fun e=>n.a3 C G e)).2
end
def A33(E:Nat->Rat)(cols i:Nat):Nat->Rat:=fun j=>E (i*cols+j)
def B2p(E:Nat->Rat)(cols i j:Nat):Int:=scl (A33 E cols i j) (Bi (A33 E cols i) cols:Int)
def B6e(E:Nat->Rat)(cols i:Nat):Nat->Nat
 | 0=>0
 | j+1=>dJ (B6e E cols i j:Int) (B2p E cols i j)
def Yt(E:Nat->Rat)(cols i:Nat):Nat:=if B6e E cols i cols=0 then 1 else B6e E cols i cols
def A5t(E:Nat->Rat)(cols i j:Nat):Int:=(B2p E cols i j).tdiv (Yt E cols i:Int)
def B23(E:Nat->Rat)(cols i:Nat):Rat:=cD (Bi (A33 E cols i) cols:Int) (Yt E cols i:Int)
def B7i(E:Nat->Rat)(cols i:Nat):∀ n j,j<n->(B6e E cols i n:Int)∣B2p E cols i j:=by
 intro n
 induction n with
 | zero=>intro j h;omega
 | succ n ih=>
  intro j a
  by_cases e:j=n
  ·subst e;exact Int.gcd_dvd_right _ _
  ·exact Int.dvd_trans (Int.gcd_dvd_left _ _) (ih j (by omega))
def Tz(E:Nat->Rat)(cols i:Nat):0<Yt E cols i:=by unfold Yt;split<;>omega
def B7v(E:Nat->Rat)(cols i:Nat){j:Nat}(hj:j<cols):(Yt E cols i:Int)∣B2p E cols i j:=by
 unfold Yt
 split
 ·exact Int.one_dvd _
 ·exact B7i E cols i cols j hj
def C0q(E:Nat->Rat)(cols i:Nat){j:Nat}(hj:j<cols):(A5t E cols i j:Rat)=B23 E cols i*E (i*cols+j):=by
 have f:=Tz E cols i
 have a:((Yt E cols i:Nat):Int)≠0:=by omega
 have c:((A5t E cols i j:Int):Rat)*((Yt E cols i:Nat):Int)=E (i*cols+j)*((Bi (A33 E cols i) cols:Nat):Int):=by
  rw [<- bD]
  unfold A5t
  rw [Int.tdiv_mul_cancel (B7v E cols i hj)]
  exact B2g (by
   have:=A0m (A33 E cols i) cols j hj
   exact Int.natCast_dvd_natCast.2 this)
 have e:=X6 a
 unfold B23
 rw [cN]
 have b:(((Bi (A33 E cols i) cols:Nat):Int):Rat)/(((Yt E cols i:Nat):Int):Rat)*E (i*cols+j)=E (i*cols+j)*(((Bi (A33 E cols i) cols:Nat):Int):Rat)/(((Yt E cols i:Nat):Int):Rat):=by
  rw [bO,bO];grind
 rw [b,<- c]
 generalize (((Yt E cols i:Nat):Int):Rat)=d at *
 rw [bO]
 grind
def B6s(E:Nat->Rat)(cols i:Nat):0<B23 E cols i:=by
 unfold B23
 rw [cN]
 have a:(0:Rat)<((Bi (A33 E cols i) cols:Nat):Int):=by
  have:=A0l (A33 E cols i) cols
  exact_mod_cast this
 have b:(0:Rat)<((Yt E cols i:Nat):Int):=by
  have:=Tz E cols i
  exact_mod_cast this
 rw [bO]
 exact Rat.mul_pos a (Rat.inv_pos.2 b)
def ZB.gcd2{k:Nat}{x y:Int}(hx:ZB k x)(hy:ZB k y):ZB k (dJ x y:Int):=by
 by_cases h:y=0
 ·subst h
  rw [Int.gcd_zero_right]
  unfold ZB at *
  simpa using hx
 ·exact ZB.gcd h hy
section
variable {E:Nat->Rat} {cols i m:Nat}
def A0b(h:∀ j,j<cols->Sz m (E (i*cols+j))){j:Nat}(hj:j<cols):ZB (1+cols*m+m) (B2p E cols i j):=by
 have:=B2f (h j hj) (Ld (f:=A33 E cols i) cols h)
 exact this.mono (by omega)
def B3j(h:∀ j,j<cols->Sz m (E (i*cols+j))):∀ j,j<=cols->ZB (1+cols*m+m) (B6e E cols i j:Int):=by
 intro j
 induction j with
 | zero=>intro _;exact ZB.zero
 | succ j ih=>intro a;exact (ih (by omega)).gcd2 (A0b h (by omega))
def A1k(h:∀ j,j<cols->Sz m (E (i*cols+j))):ZB (1+cols*m+m) (Yt E cols i:Int):=by
 unfold Yt
 split
 ·exact ZB.one (by omega)
 ·exact B3j h cols (aF _)
def C0p(h:∀ j,j<cols->Sz m (E (i*cols+j))){j:Nat}(hj:j<cols):ZB (1+cols*m+m) (A5t E cols i j):=(A0b h hj).tdiv
def B22(h:∀ j,j<cols->Sz m (E (i*cols+j))):Sz (1+cols*m+m) (B23 E cols i):=by
 have:=Tz E cols i
 exact Jm (by omega) ((Ld (f:=A33 E cols i) cols h).mono (by omega)) (A1k h)
end
structure EsOk (g:aG) (E:Nat->Rat) (cols k:Nat) (es:List IV) (V:Nat->Int) (j:Nat):Prop where
 len:es.length=k*cols+j
 rows:∀ a b,a<k->b<cols->∃ w,es[a*cols+b]? = some w/\ZIr g w (A5t E cols a b)
 last:∀ b,b<j->∃ w,es[k*cols+b]? = some w/\ZIr g w (V b)
def EsOk.mono{g g':aG}{E:Nat->Rat}{cols k j:Nat}{es:List IV}{V:Nat->Int}(e:EsOk g E cols k es V j)(l:g.le g'):EsOk g' E cols k es V j:=by
 refine ⟨e.len,fun a b f i=>?_,fun b f=>?_⟩
 ·obtain ⟨w,c,d⟩:=e.rows a b f i;exact ⟨w,c,Kk _ _ _ _ l d⟩
 ·obtain ⟨w,c,d⟩:=e.last b f;exact ⟨w,c,Kk _ _ _ _ l d⟩
def EsOk.push{g:aG}{E:Nat->Rat}{cols k j:Nat}{es:List IV}{V:Nat->Int}(e:EsOk g E cols k es V j){w:IV}(hw:ZIr g w (V j)):EsOk g E cols k (es++[w]) V (j+1):=by
 have m:=e.len
 refine ⟨by rw [aC,e.len];rfl,fun a b c i=>?_,fun b c=>?_⟩
 ·obtain ⟨u,f,d⟩:=e.rows a b c i
  have n:=Bj c i
  exact ⟨u,by rw [aW (by omega)];exact f,d⟩
 ·by_cases l:b=j
  ·subst l
   exact ⟨w,by rw [bJ (by omega),m];simp,hw⟩
  ·obtain ⟨u,f,d⟩:=e.last b (by omega)
   exact ⟨u,by rw [aW (by omega)];exact f,d⟩
def EsOk.set{g:aG}{E:Nat->Rat}{cols k:Nat}{es:List IV}{V:Nat->Int}(e:EsOk g E cols k es V cols){b:Nat}(hb:b<cols){w:IV}{z:Int}(hw:ZIr g w z):EsOk g E cols k (es.set (k*cols+b) w) (fun x=>if x=b then z else V x) cols:=by
 have m:=e.len
 refine ⟨by simpa using m,fun a c d l=>?_,fun c d=>?_⟩
 ·obtain ⟨u,i,f⟩:=e.rows a c d l
  have n:=Bj d l
  exact ⟨u,by rw [bN (by omega)];exact i,f⟩
 ·by_cases j:c=b
  ·subst j
   exact ⟨w,by rw [bX (by omega)],by show ZIr g w (if c=c then z else V c);rw [iP rfl];exact hw⟩
  ·obtain ⟨u,i,f⟩:=e.last c d
   exact ⟨u,by rw [bN (by omega)];exact i,by show ZIr g u (if c=b then z else V c);rw [iN j];exact f⟩
def EsOk.congr{g:aG}{E:Nat->Rat}{cols k j:Nat}{es:List IV}{V V':Nat->Int}(e:EsOk g E cols k es V j)(h:∀ b,b<j->V b=V' b):EsOk g E cols k es V' j:=
 ⟨e.len,e.rows,fun b a=>by rw [<- h b a];exact e.last b a⟩
def EsOk.next{g:aG}{E:Nat->Rat}{cols k:Nat}{es:List IV}{V:Nat->Int}(e:EsOk g E cols k es V cols)(h:∀ b,b<cols->V b=A5t E cols k b)(V':Nat->Int):EsOk g E cols (k+1) es V' 0:=by
 refine ⟨by rw [e.len,aK,aM];rfl,fun a b f c=>?_,fun b f=>by omega⟩
 by_cases d:a=k
 ·subst d;rw [<- h b c];exact e.last b c
 ·exact e.rows a b (by omega) c
section
variable {h g:aG} {K:VP} {A:Option aJ} {n c rows cols m:Nat} {E:Nat->Rat}
def A0i(gl:Gl h)(r:bG RQr h A (rows*cols) E)(hcap:rows*cols<=c)(hr:1<=rows)(hr2:rows<=10000)(hc:1<=cols)(hc2:cols<=10000)(hs:∀ i,i<rows*cols->Sz m (E i))(hm:1+cols*m+m<=6400000000)
 (hK:∀ h' g' o' T,h.le g'->Tab h' g' o' T (A5t E cols) (B23 E cols)->T.rows=rows->T.cols=cols->K (.pointer (some ⟨T.bt,0,none⟩)) h'):aX prog Gs #[.slice A (rows*cols) c,I (cols:Int)] h K:=by
 refine A53 _ _ _ _ ?_
 unfold A54
 have ca:rows*cols<=100000000:=by
  have:rows*cols<=10000*10000:=bB hr2 hc2
  omega
 refine A72 ?_
 intro bt bi
 refine ⟨_,rfl,Dp (z:=.pointer none) (by kernel_rfl) ?_⟩
 intro X aj
 have aw:X≠bt:=by rintro rfl;rw [C0] at aj;cases aj
 refine ⟨_,rfl,?_⟩
 refine Em (by kernel_rfl) (by kernel_rfl) rfl rfl (by decide) ?_
 have s0:=((Sep.refl h).new bi (.cells (cL (.agg #[I (cols:Int),.slice none 0 0,.slice none 0 0])) Uc)).new aj (.cells ((cL (.pointer none)).setIfInBounds 0 (.pointer (some ⟨bt,0,none⟩))) Py)
 have n0:NT ((Bh.put bt (.cells (cL (.agg #[I (cols:Int),.slice none 0 0,.slice none 0 0])) Uc)).put X (.cells ((cL (.pointer none)).setIfInBounds 0 (.pointer (some ⟨bt,0,none⟩))) Py)) X bt cols [] [] none 0 none 0:=
  ⟨⟨_,C0 _ _ _⟩,⟨_,by rw [B9 _ _ aw.symm,C0];rfl⟩,OwnSl.nil,OwnSl.nil,aw,⟨by simp,by simp⟩,⟨by simp,by simp⟩,fun b hb=>by cases hb⟩
 generalize (Bh.put bt (.cells (cL (.agg #[I (cols:Int),.slice none 0 0,.slice none 0 0])) Uc)).put X (.cells ((cL (.pointer none)).setIfInBounds 0 (.pointer (some ⟨bt,0,none⟩))) Py)=o0 at s0 n0
 refine s0.call (Yu hc ?_)
 intro v g0 l0 ic cg s3
 have bound:∀ k,k<rows->∀ j,j<cols->Sz m (E (k*cols+j)):=fun k hk j hj=>hs _ (Bj hk hj)
 refine ⟨_,rfl,Un ic hc (by omega) hcap (fun k H=>∃ (Q o1:aG) (C:List IV) (u:List QV) (A1:Option aJ) (c1:Nat) (A2:Option aJ) (c2:Nat),g0.le Q/\Sep H Q o1/\NT o1 X bt cols C u A1 c1 A2 c2/\EsOk Q E cols k C (fun _=>0) 0/\u.length=k/\Row RQr Q u k (B23 E cols)) ?_ ?_ ?_ ?_⟩
 ·exact ⟨g0,o0,[],[],none,0,none,0,B4 _,s3,n0,⟨by simp,fun a b h1=>by omega,fun b h1=>by omega⟩,rfl,Row.nil⟩
 ·rintro k H ⟨Q,o1,C,u,A1,c1,A2,c2,lg,s1,_⟩
  exact B0 lg s1.le
 ·rintro k b8 bd ⟨Q,o1,C,u,A1,c1,A2,c2,a8,s4,S,e1,D,rs⟩
  have bk:=bound k bd
  have cj:(k+1)*cols<=rows*cols:=aD _ bd
  have ch:(k+1)*cols=k*cols+cols:=by rw [aK,aM]
  have b6:k<=k*cols:=Nat.le_mul_of_pos_right k hc
  have al:=B0 l0 a8
  have a5:bG RQr h A ((k+1)*cols) E:=by
   have:=r.cut (c:=c) (l:=0) (k:=(k+1)*cols) (by omega) hcap
   rw [I0] at this
   exact this.congr fun i _=>by rw [aN]
  have af:bG RQr h (K5 A ((k+1)*cols) (k*cols) 4) cols (A33 E cols k):=a5.cut (c:=(k+1)*cols) (l:=k*cols) (k:=cols) (by omega) (aF _)
  refine ⟨_,_,_,rfl,s4.call (Ea (gl.mono al) (af.mono K9 al) (by omega) bk hm ?_)⟩
  intro sd Ad nd cd g2 l2 id cl s5
  have cE:=S.c1 s5
  rw [e1.len,cY] at cE
  have d2:=Ld (f:=A33 E cols k) cols bk
  have ak:1+cols*m<=1+cols*m+m:=by omega
  refine ⟨_,_,_,_,rfl,_,S.cp s5,_,rfl,_,_,_,cE,fun L H=>∃ (j:Nat) (s:Bool) (B:Option aJ) (bn bc:Nat) (W o3:aG) (C:List IV) (A1:Option aJ) (c1:Nat),j<=cols/\L=[I (j:Int),.bool s,.slice B bn bc]/\g2.le W/\Sep H W o3/\NT o3 X bt cols C u A1 c1 A2 c2/\EsOk W E cols k C (B2p E cols k) j/\ZI W s B bn bc (B6e E cols k j:Int),
   fun L _=>cols-(iAt L 0).toNat,⟨0,false,none,0,0,g2,o1,C,A1,c1,by omega,rfl,B4 _,s5,S,(e1.mono l2).congr (fun b hb=>by omega),ZI.zero⟩,?_⟩
  rintro z bs bA bn bc ck ⟨j,sB,B,cf,ce,W,o3,ac,A3,c3,hj,eL,l3,s6,n3,e3,i3⟩
  simp only [bF,cJ,cG,bC,true_and,and_true] at eL
  obtain ⟨rfl,rfl,rfl,rfl,rfl⟩:=eL
  have bo:B6 ((j:Int)+1)=((j+1:Nat):Int):=by rw [B8]<;>omega
  have ad:=B0 al (B0 l2 l3)
  refine B7 (fun bq=>?_) (fun bx=>?_)
  ·have F:j<cols:=by omega
   obtain ⟨a,w,ea,iw,q0,q1,q2,q3⟩:=af.qat F
   have ae:=B0 ad s6.le
   refine ⟨a,ea,by omega,by omega,_,_,_,_,_,_,_,_,B5 ae q0,B5 ae q1,B5 ae q2,B5 ae q3,?_⟩
   refine s6.call (Ky (m:=1+cols*m+m) (K9 _ _ _ _ ad iw) (id.mono l3) ((bk j F).mono (by omega)) (d2.mono ak) hm ?_)
   intro s7 A7 n7 c7 g7 l7 i7 a0 bl
   refine ⟨_,_,_,_,rfl,bl.call (Cm (gl.mono (B0 ad l7)).tz (i3.mono l7) i7 (B3j bk j hj) (A0b bk F) hm ?_)⟩
   intro A8 n8 c8 g8 l8 i8 ao G
   have z7:ZIr g8 ⟨s7,A7,n7,c7⟩ (B2p E cols k j):=i7.mono l8
   have hF:∀ h' g' o' A2' N,g8.le g'->Sep h' g' o'->NT o' X bt cols (ac++[⟨s7,A7,n7,c7⟩]) u A2' N A2 c2->(∃ (j':Nat) (s:Bool) (B:Option aJ) (bn bc:Nat) (W o3:aG) (C:List IV) (A1:Option aJ) (c1:Nat),j'<=cols/\[I (B6 ((j:Int)+1)),.bool false,.slice A8 n8 c8]=[I (j':Int),.bool s,.slice B bn bc]/\g2.le W/\Sep h' W o3/\NT o3 X bt cols C u A1 c1 A2 c2/\EsOk W E cols k C (B2p E cols k) j'/\ZI W s B bn bc (B6e E cols k j':Int))/\cols-(iAt [I (B6 ((j:Int)+1)),.bool false,.slice A8 n8 c8] 0).toNat<cols-(iAt [I (j:Int),.bool bs,.slice bA bn bc] 0).toNat:=by
    intro h' g' o' A2' N J s' n'
    rw [bo]
    refine ⟨⟨j+1,false,A8,n8,c8,g',o',_,A2',N,by omega,rfl,B0 l3 (B0 l7 (B0 l8 J)),s',n',((e3.mono (B0 l7 l8)).push z7).mono J,i8.mono J⟩,by simp only [Bk];omega⟩
   have M:ac.length<=100000000:=by have:=e3.len;omega
   refine ⟨_,_,_,_,rfl,_,n3.cp G,_,rfl,_,_,_,n3.c1 G,⟨_,n3.cp G,?_⟩,?_⟩
   ·exact n3.buildE G ⟨s7,A7,n7,c7⟩ M hF fun B m d H lp cp p=>⟨_,_,_,rfl,lp,p fun A2 c2 h2 _ q=>⟨_,_,_,rfl,_,rfl,q⟩⟩
   ·exact n3.buildE G ⟨s7,A7,n7,c7⟩ M hF fun B m d H lp cp p=>⟨_,_,_,rfl,lp,⟨_,cp,p fun A2 c2 h2 _ q=>⟨_,_,_,rfl,_,rfl,q⟩⟩,p fun A2 c2 h2 ai q=>⟨_,_,_,rfl,_,ai,_,rfl,q⟩⟩
  ·have F:j=cols:=by omega
   subst F
   have hg:((B6e E j k j:Nat):Int)=0↔B6e E j k j=0:=by omega
   refine ⟨fun L H=>∃ (s:Bool) (B:Option aJ) (bn bc:Nat) (g4:aG),L=[.bool s,.slice B bn bc]/\W.le g4/\Sep H g4 o3/\ZI g4 s B bn bc (Yt E j k:Int),?_,?_⟩
   ·refine s6.call (G1 i3 ?_)
    intro a0 s7
    refine ⟨_,rfl,B7 (fun e=>?_) (fun e=>?_)⟩
    ·refine s7.call (Eg (by omega) (by omega) ?_)
     intro V A8 n8 c8 g8 l8 i8 ao G
     refine ⟨_,_,_,_,rfl,_,_,_,_,g8,rfl,l8,G,?_⟩
     have:Yt E j k=1:=by unfold Yt;rw [iP (hg.1 e)]
     rw [this];exact i8
    ·refine ⟨_,_,_,_,W,rfl,B4 _,s7,?_⟩
     have:Yt E j k=B6e E j k j:=by unfold Yt;rw [iN (fun x=>e (hg.2 x))]
     rw [this];exact i3
   ·rintro cs cA cn cc a0 ⟨bj,bg,bh,bm,g4,eL,l4,s7,ic⟩
    obtain ⟨rfl,rfl,rfl,rfl⟩:cs=bj/\cA=bg/\cn=bh/\cc=bm:=by simpa using eL
    have e4:=e3.mono l4
    have az:=n3.c1 s7
    rw [e4.len] at az
    have bb:ac≠[]:=by rintro rfl;have:=e4.len;simp at this;omega
    obtain ⟨O,am,rB⟩:=n3.oe.rowB bb
    subst am
    have b9:k*j+j<=c3:=by have:=n3.oe.1;rw [e4.len] at this;exact this
    have a4:(((k*j:Nat):Int)).toNat=k*j:=rfl
    have a6:K5 (some ⟨O,0,none⟩) c3 ((((k*j:Nat):Int)).toNat) 2=some ⟨O,k*j*2,none⟩:=by rw [a4,A47 (by omega),E6,aN]
    have ax:k*j+j-(((k*j:Nat):Int)).toNat=j:=by rw [a4];omega
    refine ⟨_,n3.cp s7,_,rfl,_,_,_,az,⟨by omega,by omega⟩,?_⟩
    rw [a6,ax]
    refine ⟨fun L H=>∃ (n:Nat) (g o:aG) (C:List IV),n<=j/\L=[I (n:Int)]/\g4.le g/\Sep H g o/\NT o X bt j C u (some ⟨O,0,none⟩) c3 A2 c2/\EsOk g E j k C (fun b=>if b<n then A5t E j k b else B2p E j k b) j,fun L _=>j-(iAt L 0).toNat,⟨0,g4,o3,ac,by omega,rfl,B4 _,s7,n3,e4.congr fun b hb=>by rw [iN (by omega)]⟩,?_⟩
    rintro z ao ⟨n,g5,o5,R,cb,eL,l5,V,t,e5⟩
    obtain rfl:=sI1 eL
    have a9:B6 ((n:Int)+1)=((n+1:Nat):Int):=by rw [B8]<;>omega
    have bv:B6 (((k*j:Nat):Int)+(n:Int))=((k*j+n:Nat):Int):=by rw [B8]<;>omega
    have au:=t.c1 V
    rw [e5.len] at au
    have bw:=Tz E j k
    refine B7 (fun bq=>?_) (fun bx=>?_)
    ·have F:n<j:=by omega
     obtain ⟨w,ew,iw⟩:=e5.last n F
     rw [iN (aS n)] at iw
     obtain ⟨ci,ag,bz⟩:=t.oe.rowB (by rintro rfl;have:=e5.len;simp at this;omega)
     simp only [aQ,aZ,and_true] at ag
     subst ag
     have aa:k*j+n<R.length:=by have:=e5.len;omega
     have b3:R[k*j+n]=w:=by
      rw [aI aa] at ew
      cases ew;rfl
     have ha:k*j*2+n*2=(k*j+n)*2:=by rw [aK]
     have cell:∀ x v,(enc w)[x]? = some v->ao.cell? (aE (aE ⟨O,k*j*2,none⟩ (((n:Int)).toNat*2)) x)=some v:=by
      intro x v hx
      refine V.cell ?_
      rw [E6,E6]
      show o5.cell? ⟨O,k*j*2+n*2+x,none⟩=_
      rw [ha]
      exact bz.cell aa (by rw [b3];exact hx)
     refine ⟨_,rfl,by omega,by omega,_,_,_,_,cell 0 _ rfl,cell 1 _ rfl,_,t.cp V,_,rfl,_,_,_,au,?_⟩
     refine V.call (Q1 iw (ic.mono l5) (A0b bk F) (A1k bk) hm (by omega) ?_)
     intro Z A9 n9 c9 g9 l9 i9 av a7
     refine ⟨_,_,_,_,rfl,V.le_le a7 l9,_,rfl,by omega,by omega,?_⟩
     rw [bv]
     refine OwnSl.store A02 (y:=(⟨Z,A9,n9,c9⟩:IV)) rfl a7 t.oe aa rfl ?_
     intro b7 bf b4 ay ko
     obtain ⟨x1,br⟩:=t.hp
     obtain ⟨x2,an⟩:=t.ht
     have b1:X≠O:=fun e=>t.a1.1 (by rw [e])
     have b2:bt≠O:=fun e=>t.a1.2 (by rw [e])
     rw [a9]
     refine ⟨⟨n+1,g9,bf,R.set (k*j+n) ⟨Z,A9,n9,c9⟩,by omega,rfl,B0 l5 l9,b4,⟨⟨x1,by rw [ko _ b1];exact br⟩,⟨x2,by rw [ko _ b2,cK];exact an⟩,ay,t.os.keep fun b x hb hx=>by rw [ko b (fun e=>t.a3 O rfl (by rw [<- e];exact hb))];exact hx,t.ne,t.a1,t.a2,t.a3⟩,((e5.mono l9).set F (show ZIr g9 ⟨Z,A9,n9,c9⟩ (A5t E j k n) from i9)).congr fun b hb=>?_⟩,by simp only [Bk];omega⟩
     show (if b=n then A5t E j k n else if b<n then A5t E j k b else B2p E j k b)=if b<n+1 then A5t E j k b else B2p E j k b
     by_cases eb:b=n
     ·subst eb;rw [iP rfl,iP (by omega)]
     ·rw [iN eb]
      by_cases h7:b<n
      ·rw [iP h7,iP (by omega)]
      ·rw [iN h7,iN (by omega)]
    ·have b0:n=j:=by omega
     subst b0
     have eN:EsOk g5 E n (k+1) R (fun _=>0) 0:=e5.next (fun b hb=>by rw [iP hb]) _
     have sS:=B22 (E:=E) (cols:=n) (i:=k) bk
     have fr:∀ (gg:aG) (w:QV),g5.le gg->RQ gg w (cD (Bi (A33 E n k) n:Int) (Yt E n k:Int))->∀ h' g' o' A2' N,gg.le g'->Sep h' g' o'->NT o' X bt n R (u++[w]) (some ⟨O,0,none⟩) c3 A2' N->∃ (Q o1:aG) (C:List IV) (u:List QV) (A1:Option aJ) (c1:Nat) (A2:Option aJ) (c2:Nat),g0.le Q/\Sep h' Q o1/\NT o1 X bt n C u A1 c1 A2 c2/\EsOk Q E n (k+1) C (fun _=>0) 0/\u.length=k+1/\Row RQr Q u (k+1) (B23 E n):=by
      intro gg w aq iw h' g' o' A2' N J s' n'
      have ah:Q.le g':=B0 l2 (B0 l3 (B0 l4 (B0 l5 (B0 aq J))))
      refine ⟨g',o',R,u++[w],_,c3,A2',N,B0 a8 ah,s',n',eN.mono (B0 aq J),by simp [D],?_⟩
      have bu:Row RQr g' u u.length (B23 E n):=by rw [D];exact rs.mono K9 ah
      have:=bu.push (w:=w) (by rw [D];exact K9 _ _ _ _ J iw)
      rw [aC,D] at this
      exact this
     have ba:=(gl.mono (B0 ad (B0 l4 l5))).tz
     have ar:=(id.mono (B0 l3 (B0 l4 l5)))
     have ap:u.length<=100000000:=by omega
     refine ⟨_,t.cp V,_,rfl,_,_,_,t.c2 V,⟨_,t.cp V,?_⟩,?_⟩
     ·refine V.call (Bs ba ar (ic.mono l5) (d2.mono ak) (A1k bk) hm ?_)
      intro w gf lf iw av Z
      refine ⟨_,_,_,_,_,_,_,_,rfl,V.le_le Z lf,?_⟩
      exact t.buildS Z w ap (fr gf w lf iw) fun B m d H lp cp p=>⟨_,_,_,rfl,lp,p fun A2 c2 h2 _ q=>⟨_,_,_,rfl,_,rfl,q⟩⟩
     ·refine V.call (Bs ba ar (ic.mono l5) (d2.mono ak) (A1k bk) hm ?_)
      intro w gf lf iw av Z
      refine ⟨_,_,_,_,_,_,_,_,rfl,V.le_le Z lf,⟨_,t.cp Z,?_⟩,?_⟩
      ·exact t.buildS Z w ap (fr gf w lf iw) fun B m d H lp cp p=>⟨_,_,_,rfl,lp,p fun A2 c2 h2 _ q=>⟨_,_,_,rfl,_,rfl,q⟩⟩
      ·exact t.buildS Z w ap (fr gf w lf iw) fun B m d H lp cp p=>⟨_,_,_,rfl,lp,⟨_,cp,p fun A2 c2 h2 _ q=>⟨_,_,_,rfl,_,rfl,q⟩⟩,p fun A2 c2 h2 ai q=>⟨_,_,_,rfl,_,ai,_,rfl,q⟩⟩
 ·rintro H ⟨Q,o1,C,u,A1,c1,A2,c2,lg,s1,S,e1,D,rs⟩
  refine ⟨_,S.cp s1,?_⟩
  have M:C.length=rows*cols:=by rw [e1.len];rfl
  have b5:0<rows*cols:=Nat.mul_pos (by omega) (by omega)
  obtain ⟨O,am,rE⟩:=S.oe.rowB (by rintro rfl;simp at M;omega)
  obtain ⟨bS,be,rS⟩:=S.os.rowB (by rintro rfl;simp at D;omega)
  subst am be
  obtain ⟨x2,an⟩:=S.ht
  refine hK H Q o1 ⟨bt,O,bS,rows,cols,c1,c2⟩ (B0 l0 lg) ⟨s1,fun (e:bt=O)=>S.a1.2 (by rw [<- e]),fun (e:bt=bS)=>S.a2.2 (by rw [<- e]),fun (e:O=bS)=>S.a3 O rfl (by rw [e]),⟨x2,by rw [an,M,D]⟩,⟨C,rE,M,fun i j hi hj=>e1.rows i j hi hj⟩,⟨u,rS,D,rs⟩,by rw [<- M];exact S.oe.1,by rw [<- D];exact S.os.1,⟨hr2,hc2⟩,hc⟩ rfl rfl
end
structure MOk (r c:Int) (n:Nat) (ls:Nat->List UInt8) (rows cols:Nat):Prop where
 er:r=rows
 ec:c=cols
 r1:1<=rows
 r2:rows<=64
 c1:1<=cols
 c2:cols<=64
 len:n=rows*cols
 num:∀ i,i<n->cW (ls i)
def B5b(r c:Int)(n:Nat):Prop:=1<=r/\r<=64/\1<=c/\c<=64/\(n:Int)=r*c
def MOk.of{r c:Int}{n:Nat}{ls:Nat->List UInt8}(s:B5b r c n)(h:∀ i,i<n->cW (ls i)):MOk r c n ls r.toNat c.toNat:=by
 obtain ⟨j,d,f,g,e⟩:=s
 refine ⟨by omega,by omega,by omega,by omega,by omega,by omega,?_,h⟩
 have b:(r.toNat:Int)=r:=by omega
 have a:(c.toNat:Int)=c:=by omega
 have:((r.toNat*c.toNat:Nat):Int)=r*c:=by rw [aV,b,a]
 omega
def MOk.shape{r c:Int}{n:Nat}{ls:Nat->List UInt8}{rows cols:Nat}(m:MOk r c n ls rows cols):B5b r c n:=by
 obtain ⟨rfl,rfl,f,b,d,e,a,_⟩:=m
 exact ⟨by omega,by omega,by omega,by omega,by rw [a,aV]⟩
abbrev Yo(r c:Int)(A:Option aJ)(n cap:Nat):cC:=.agg #[I r,I c,.slice A n cap]
def Mx(r c:Int)(n:Nat)(ls:Nat->List UInt8):Prop:=∃ rows cols,MOk r c n ls rows cols
def A52{r c:Int}{n:Nat}{ls:Nat->List UInt8}:Mx r c n ls↔B5b r c n/\∀ i,i<n->cW (ls i):=by
 constructor
 ·rintro ⟨b,a,m⟩;exact ⟨m.shape,m.num⟩
 ·rintro ⟨s,h⟩;exact ⟨_,_,MOk.of s h⟩
section
variable {h:aG} {K:VP} {A:Option aJ} {n cap m:Nat} {r c:Int} {ls:Nat->List UInt8}
def Oc(hn:n<=1000000000)(hK1:B5b r c n->K (.bool true) h)(hK0:¬ B5b r c n->K (.bool false) h):aX prog Gt #[Yo r c A n cap] h K:=by
 refine A55 _ _ _ _ _ ?_
 unfold A56
 refine B7 (fun j=>B7 (fun a=>B7 (fun i=>B7 (fun d=>?_) (fun e=>hK0 fun s=>e s.2.2.2.1)) (fun e=>hK0 fun s=>e s.2.2.1)) (fun e=>hK0 fun s=>e s.2.1)) (fun e=>hK0 fun s=>e s.1)
 have g:r*c<=64*64:=Int.mul_le_mul a d (by omega) (by omega)
 have b:0<=r*c:=Int.mul_nonneg (by omega) (by omega)
 have f:B6 (r*c)=r*c:=B8 (by omega) (by omega)
 rw [f]
 by_cases e:(n:Int)=r*c
 ·rw [show ((n:Int)==r*c)=true by simpa using e]
  exact hK1 ⟨j,a,i,d,e⟩
 ·rw [show ((n:Int)==r*c)=false by simpa using e]
  exact hK0 fun s=>e s.2.2.2.2
def Es(gl:Gl h)(rv':bG SSr h A n ls)(hn:n<=1000000)(hl:LL n ls)
 (hK1:∀ rows cols,MOk r c n ls rows cols->∀ b h',Own RQr h h' b n (fun i=>rv (ls i))->K (.tuple #[.slice (some ⟨b,0,none⟩) n n,.bool true]) h')
 (hK0:¬ Mx r c n ls->∀ h',h.le h'->K (.tuple #[.slice none 0 0,.bool false]) h'):aX prog Qu #[Yo r c A n cap] h K:=by
 refine B8w _ _ _ _ _ ?_
 unfold C4y
 refine Oc (by omega) (fun s=>⟨_,rfl,?_⟩) (fun s=>⟨_,rfl,hK0 (fun x=>s (A52.1 x).1) h (B4 _)⟩)
 refine Ah gl rv' hn hl (fun a b h' w=>⟨_,_,_,_,rfl,hK1 _ _ (MOk.of s a) b h' w⟩) (fun d h' l=>⟨_,_,_,_,rfl,hK0 (fun x=>d (A52.1 x).2) h' l⟩)
def Uy(gl:Gl h)(rv':bG SSr h A n ls)(hn:n<=1000000)(hl:LL n ls)
 (hK1:Mx r c n ls->K (.bool true) h) (hK0:¬ Mx r c n ls->K (.bool false) h):aX prog Tq #[Yo r c A n cap] h K:=by
 refine B5w _ _ _ _ _ ?_
 unfold C08
 refine Oc (by omega) (fun s=>⟨_,rfl,?_⟩) (fun s=>⟨_,rfl,hK0 (fun x=>s (A52.1 x).1)⟩)
 refine ⟨fun L g=>∃ k:Nat,k<=n/\L=[I k]/\g=h/\∀ i,i<k->cW (ls i),fun L _=>n-(iAt L 0).toNat,⟨0,by omega,rfl,rfl,fun i j=>by omega⟩,?_⟩
 rintro t g ⟨k,q,l,rfl,b⟩
 obtain rfl:=sI1 l
 refine B7 (fun p=>?_) (fun m=>?_)
 ·have d:k<n:=by omega
  obtain ⟨a,rfl,o⟩:=rv'.sat d
  refine ⟨a,rfl,by omega,by omega,_,o,Cd gl (hl k d) (fun f=>⟨_,rfl,?_⟩) (fun f=>⟨_,rfl,hK0 (fun y=>f ((A52.1 y).2 k d))⟩)⟩
  rw [wiS k (by omega)]
  refine ⟨⟨k+1,by omega,rfl,rfl,fun i j=>?_⟩,by simp only [Bk];omega⟩
  by_cases e:i=k
  ·subst e;exact f
  ·exact b i (by omega)
 ·have:k=n:=by omega
  subst this
  exact hK1 (A52.2 ⟨s,b⟩)
def A6c{f:Nat->Rat}(gl:Gl h)(rq:bG RQr h A n f)(hn:n<=1000000)(hs:∀ i,i<n->Sz m (f i))(hm:m<=40000000)
 (hK:∀ b h',Own SSr h h' b n (fun i=>I8 (f i))->K (Yo r c (some ⟨b,0,none⟩) n n) h'):aX prog A16 #[I r,I c,.slice A n cap] h K:=by
 refine B5v _ _ _ _ _ ?_
 unfold C07
 exact Id gl rq hn hs hm fun b h' w=>⟨_,_,_,rfl,hK b h' w⟩
end
end Go.Proofs.YtmbfcbbkbefgfaaGreatDoor
namespace Go.Proofs.YtmbfcbbkbefgfaaGreatDoor
set_option maxRecDepth 20000
def ZrE(n c:Nat)(s:ES):Prop:=∀ i j,i<n->s.cs.length<=i->j<c->s.R i j=0
def Yc(n c:Nat)(s:ES)(h:s.cs.length<=n):s.cs.length<=Hq n c s/\Hq n c s<=n/\(Hq n c s<n->s.R (Hq n c s) c≠0)/\(∀ i,s.cs.length<=i->i<Hq n c s->s.R i c=0):=by
 have d:=A3v (fun i=>decide (s.R i c≠0)) (n-s.cs.length) s.cs.length
 have a:=Tk (fun i=>decide (s.R i c≠0)) (n-s.cs.length) s.cs.length
 have b:=A0q (fun i=>decide (s.R i c≠0)) (n-s.cs.length) s.cs.length
 have g:fnd (fun i=>decide (s.R i c≠0)) (n-s.cs.length) s.cs.length=Hq n c s:=rfl
 rw [g] at d a b
 refine ⟨d.1,by omega,fun j=>?_,fun i f e=>?_⟩
 ·have:=b (by omega);simpa using this
 ·have:=a i f e;simpa using this
def B7q{R:Nat->Nat->Rat}{k c:Nat}(hz:∀ b,b<c->R k b=0):elimE R k c=Bz R k c:=by
 funext a b
 unfold elimE Bz
 by_cases e:a=k
 ·rw [iP e,iP e]
 ·rw [iN e,iN e]
  split
  ·rename_i d
   rcases d with d|d
   ·rw [d];grind
   ·rw [hz b d];grind
  ·rfl
structure EqA (n w c:Nat) (A:Nat->Nat->Rat) (s:ES):Prop where
 len:s.cs.length<=n
 zero:ZrE n c s
 lt:∀ x∈s.cs,x<c
 elim:∃ B,Elim n w B s.R (fun m=>s.cs.getD m 0) s.cs.length/\(∀ i,i<n->∃ i',i'<n/\∀ j,B i' j=A i j)/\(∀ i,i<n->∃ i',i'<n/\∀ j,B i j=A i' j)
 comb:∃ T:Nat->Nat->Rat,∀ i j,i<n->j<w->s.R i j=sm n fun l=>T i l*A l j
def A5h{k l i:Nat}:xch k l (xch k l i)=i:=by unfold xch;repeat' split
                                             all_goals omega
def EqA.start(n w:Nat)(A:Nat->Nat->Rat):EqA n w 0 A ⟨A,[],1⟩:=by
 refine ⟨bU _,fun i j _ _ d=>by omega,fun x c=>(by cases c),⟨A,Elim.start,fun i a=>⟨i,a,fun _=>rfl⟩,fun i a=>⟨i,a,fun _=>rfl⟩⟩,⟨fun i l=>if l=i then 1 else 0,fun i j a _=>?_⟩⟩
 show A i j=sm n fun l=>(if l=i then (1:Rat) else 0)*A l j
 rw [A2v a fun l _ b=>by rw [iN b,bV],iP rfl,cT]
def EqA.step{n w c:Nat}{A:Nat->Nat->Rat}{s:ES}(h:EqA n w c A s)(hc:c<w):EqA n w (c+1) A (Fv n c s):=by
 obtain ⟨H,f2,X,f4⟩:=Yc n c s h.len
 unfold Fv
 by_cases y:s.cs.length<n
 ·rw [iP y]
  by_cases p:Hq n c s<n
  ·rw [iP p]
   have J:=X p
   generalize Hq n c s=r at *
   obtain ⟨B,E,F,G⟩:=h.elim
   obtain ⟨T,Q⟩:=h.comb
   have Z:∀ b,b<c->s.R r b=0:=fun b D=>h.zero r b p H D
   have z:=Tg s.cs.length r
   have o:∀ i,i<n->xch s.cs.length r i<n:=fun i d=>Rp y p d
   have t:(s.cs++[c]).length=s.cs.length+1:=by simp
   have N:elimE (fun i=>s.R (xch s.cs.length r i)) s.cs.length c=Bz (fun i=>s.R (xch s.cs.length r i)) s.cs.length c:=B7q fun b D=>by rw [z];exact Z b D
   refine ⟨by show (s.cs++[c]).length<=n;omega,fun i j d k u=>?_,fun x a=>?_,⟨fun i=>B (xch s.cs.length r i),?_,fun i d=>?_,fun i d=>?_⟩,?_⟩
   ·show elimE (fun i=>s.R (xch s.cs.length r i)) s.cs.length c i j=0
    have M:s.cs.length+1<=i:=by have:(s.cs++[c]).length<=i:=k;omega
    have C:=B1h (i:=i) H (show s.cs.length<=i by omega)
    unfold elimE
    rw [iN (by omega)]
    simp only [z]
    by_cases e:j=c
    ·subst e
     split
     ·rename_i q
      rcases q with q|q
      ·exact q
      ·omega
     ·grind
    ·rw [iP (.inr (by omega))]
     exact h.zero _ j (o i d) C (by omega)
   ·rcases List.mem_append.1 a with a|a
    ·have:=h.lt x a;omega
    ·simp at a;omega
   ·show Elim n w _ (elimE (fun i=>s.R (xch s.cs.length r i)) s.cs.length c) _ (s.cs++[c]).length
    rw [N,t]
    refine ((E.swap H p).cs_congr fun m V=>(A3q s.cs c m V).symm).step y hc (A3r _ _) ?_
    show s.R (xch s.cs.length r s.cs.length) c≠0
    rw [z];exact J
   ·obtain ⟨L,q,S⟩:=F i d
    exact ⟨xch s.cs.length r L,o L q,fun j=>by show B (xch _ _ (xch _ _ L)) j=_;rw [A5h];exact S j⟩
   ·exact G _ (o i d)
   ·refine ⟨fun i l=>if i=s.cs.length then T r l/s.R r c else T (xch s.cs.length r i) l-s.R (xch s.cs.length r i) c*(T r l/s.R r c),fun i j d u=>?_⟩
    show elimE (fun i=>s.R (xch s.cs.length r i)) s.cs.length c i j=_
    rw [N]
    unfold Bz
    simp only [z]
    have O:sm n (fun l=>T r l/s.R r c*A l j)=s.R r j/s.R r c:=by
     rw [Q r j p u,bO,aU _ (s.R r c)⁻¹,<- He]
     exact D6 fun l _=>by rw [bO];grind
    by_cases e:i=s.cs.length
    ·simp only [iP e]
     exact O.symm
    ·simp only [iN e]
     have W:=Q (xch s.cs.length r i) j (o i d) u
     rw [<- O,W,<- He]
     have:∀ f g:Nat->Rat,sm n f-sm n g=sm n fun l=>f l-g l:=fun f g=>by
      rw [dB,<- A2w,<- Uj]
      exact D6 fun l _=>(dB _ _).symm
     rw [this]
     exact D6 fun l _=>by grind
  ·rw [iN p]
   refine ⟨h.len,fun i j d k u=>?_,fun x a=>by have:=h.lt x a;omega,h.elim,h.comb⟩
   show s.R i j=0
   by_cases e:j=c
   ·rw [e];exact f4 i k (by omega)
   ·exact h.zero i j d k (by omega)
 ·rw [iN y]
  exact ⟨h.len,fun i j d k u=>by omega,fun x a=>by have:=h.lt x a;omega,h.elim,h.comb⟩
def EqA.run{n w:Nat}(A:Nat->Nat->Rat):∀ c,c<=w->EqA n w c A (A86 n ⟨A,[],1⟩ c):=by
 intro c
 induction c with
 | zero=>exact fun _=>EqA.start n w A
 | succ c ih=>exact fun a=>(ih (by omega)).step (by omega)
def C0x(x:Nat->Rat)(f:Nat->Rat):Nat->List Nat->Nat->Rat
 | _,[]=>x
 | i,c::cs=>C0x (fun j=>if j=c then f i else x j) f (i+1) cs
def EqA.none{n w:Nat}{A:Nat->Nat->Rat}{s:ES}(h:EqA n (w+1) w A s){i:Nat}(hi:i<n)(hk:s.cs.length<=i)(hne:s.R i w≠0):∃ y:Nat->Rat,(∀ j,j<w->sm n (fun l=>y l*A l j)=0)/\sm n (fun l=>y l*A l w)=1:=by
 obtain ⟨T,c⟩:=h.comb
 have b:∀ j,j<w+1->sm n (fun l=>T i l/s.R i w*A l j)=s.R i j/s.R i w:=by
  intro j a
  rw [c i j hi a,bO,aU _ (s.R i w)⁻¹,<- He]
  exact D6 fun l _=>by rw [bO];grind
 refine ⟨fun l=>T i l/s.R i w,fun j a=>?_,?_⟩
 ·rw [b j (by omega),h.zero i j hi hk a];grind
 ·rw [b w (by omega)];grind
def mtx(E:Nat->Rat)(cols:Nat):Nat->Nat->Rat:=fun i j=>E (i*cols+j)
def elE(E:Nat->Rat)(rows cols c:Nat):ES:=A86 rows ⟨mtx E cols,[],1⟩ c
def elP(E:Nat->Rat)(rows cols c:Nat):PS:=Cs rows ⟨A5t E cols,B23 E cols,[],1,1⟩ c
def B43(E:Nat->Rat){rows cols c:Nat}(hc:c<=cols):ERel rows cols c (mtx E cols) (elE E rows cols c) (elP E rows cols c):=
 (ERel.start (fun i j _ a=>C0q E cols i a) (fun i _=>by have:=B6s E cols i;grind)).run c hc
def C1j(E:Nat->Rat){rows cols c:Nat}(hc:c<=cols):(elP E rows cols c).cs=(elE E rows cols c).cs:=(B43 E hc).cs.symm
def C3z(E:Nat->Rat){rows cols c:Nat}(hc:c<=cols){i j:Nat}(hi:i<rows)(hj:j<cols)(h:i<(elE E rows cols c).cs.length\/j<c):cD ((elP E rows cols c).M i j) (elP E rows cols c).last=(elE E rows cols c).R i j:=by
 have r:=B43 E hc (rows:=rows)
 have d:=r.val i j hi hj
 have b:=X6 r.last
 rw [cN,d]
 by_cases a:i<(elE E rows cols c).cs.length
 ·rw [iP a,aU,bO,dM,Rat.mul_inv_cancel _ b,Rat.mul_one]
 ·rw [iN a,r.zero i j hi (by omega) (by omega),aY,aY]
  rw [bO,bV]
def bnd(cols m:Nat):Nat:=1+cols*m+m
def C3y{E:Nat->Rat}{rows cols m:Nat}(h:∀ i,i<rows*cols->Sz m (E i)):ZbP rows cols (bnd cols m) (bnd cols m) ⟨A5t E cols,B23 E cols,[],1,1⟩:=by
 have e:∀ i,i<rows->∀ j,j<cols->Sz m (E (i*cols+j)):=fun i f j g=>h _ (Bj f g)
 refine ⟨fun a b c d=>?_,?_,fun a c=>B22 (e a c),bU _⟩
 ·show ZB (3^0*bnd cols m) (A5t E cols a b)
  rw [dR,aM];exact C0p (e a c) d
 ·show ZB (3^0*bnd cols m) 1
  exact ZB.one (by unfold bnd;omega)
def C3x{E:Nat->Rat}{rows cols m c:Nat}(h:∀ i,i<rows*cols->Sz m (E i))(hc:c<=cols):ZbP rows cols (bnd cols m) (bnd cols m) (elP E rows cols c):=(C3y h).run (by unfold bnd;omega) c hc
def C1i(E:Nat->Rat)(rows cols c:Nat):(elP E rows cols c).last≠0:=(A31 rows _ (show (1:Int)≠0 by decide) (.inl rfl) (bU _) c).1
structure Own2 (h h':aG) (b n:Nat) (f:Nat->List UInt8) (A:Option aJ) (cap:Nat) (l:List Int):Prop where
 ex:∃ g o xs,h.le g/\Sep h' g o/\RowX o b xs/\xs.length=n/\Row SSr g xs n f/\OwnSl o F3 A cap l/\A≠some ⟨b,0,none⟩
section
variable {h g o:aG} {T:Tb} {M:Nat->Nat->Int} {S:Nat->Rat}
end
section
variable {h:aG} {K:VP} {A:Option aJ} {n cap m:Nat} {r c:Int} {ls:Nat->List UInt8}
abbrev rvs(ls:Nat->List UInt8):Nat->Rat:=fun i=>rv (ls i)
def A2s{E:Nat->Rat}{rows cols cc nq:Nat}(gl:Gl h)(rq:bG RQr h A (rows*cols) E)(hcap:rows*cols<=cap)(hr:1<=rows)(hr2:rows<=10000)(hc:1<=cols)(hc2:cols<=10000)(hcc:cc<=cols)(hs:∀ i,i<rows*cols->Sz m (E i))(hnq:∀ k,k<=cc->(elP E rows cols k).cs.length<=nq)(hm:2*(3^nq*bnd cols m)+1<=100000000){K:VP}
 (hK:∀ T h1,aX prog Ov #[.pointer (some ⟨T.bt,0,none⟩),I (cc:Int)] h1 (fun r h'=>∃ g' o' A' cap' w,h.le g'/\Tab h' g' o' T (elP E rows cols cc).M (elP E rows cols cc).S/\OwnSl o' F3 A' cap' (zs (elP E rows cols cc).cs)/\C2y T A'/\ZIr g' w (elP E rows cols cc).last/\
  r= .tuple #[.slice A' (elP E rows cols cc).cs.length cap',w.v,I (elP E rows cols cc).sgn])->h.le h1->T.rows=rows->T.cols=cols->K (.pointer (some ⟨T.bt,0,none⟩)) h1):aX prog Gs #[.slice A (rows*cols) cap,I (cols:Int)] h K:=by
 have h1:bnd cols m<=3^nq*bnd cols m:=dT _ (cZ (by decide))
 have o:bnd cols m=1+cols*m+m:=rfl
 refine A0i (m:=m) gl rq hcap hr hr2 hc hc2 hs (by omega) ?_
 intro h' g' o' T j t b d
 refine hK T h' ?_ (B0 j t.sep.le) b d
 have c:=C3y hs
 rw [<- b,<- d] at c
 refine A39 (m:=bnd cols m) (l:=bnd cols m) t (by omega) (by unfold bnd;omega) (by rw [b];exact hnq) hm (by rw [b] at c ⊢;rw [d] at c ⊢;exact c) ?_
 intro o s n A2 a w p f e q u g
 rw [b] at f e g ⊢
 exact ⟨s,n,A2,a,w,B0 j p,f,e,q,g,rfl⟩
end
def Uw(o:aG)(A:Option aJ):aG:=fun k=>if A=some ⟨k,0,none⟩ then o k else none
def B33(o:aG)(A:Option aJ):(Uw o A).le o:=fun k x e=>by
 unfold Uw at e
 split at e
 ·exact e
 ·cases e
def OwnSl.only{α:Type}[E:Enc α]{o:aG}{e:bY}{A:Option aJ}{c:Nat}{xs:List α}(w:OwnSl o e A c xs):OwnSl (Uw o A) e A c xs:=w.keep fun b x d a=>by unfold Uw;rw [iP d];exact a
def A6b(o:aG){A:Option aJ}{k:Nat}(h:A≠some ⟨k,0,none⟩):Uw o A k=none:=by unfold Uw;rw [iN h]
section
variable {h:aG} {K:VP} {A:Option aJ} {n cap m:Nat} {r c:Int} {ls:Nat->List UInt8}
end
section
variable {h:aG} {K:VP} {A:Option aJ} {n cap m:Nat} {r c:Int} {ls:Nat->List UInt8}
end
structure HV where
 A:Option aJ
 n:Nat
 c:Nat
abbrev HV.v(s:HV):cC:=.slice s.A s.n s.c
instance:Enc HV:=⟨⟨fun s=>[.slice s.A s.n s.c],1,fun _=>rfl,fun s v hv=>by rw [List.mem_singleton.1 hv];rfl⟩⟩
def RowsV(h:aG)(A:Option aJ)(n w:Nat)(M:Nat->Nat->Rat):Prop:=∃ hd:List HV,SlF h A hd/\hd.length=n/\∀ i,i<n->∃ s,hd[i]? = some s/\s.n=w/\w<=s.c/\bG NQr h s.A w (M i)
def RowsV.mono{h h':aG}{A:Option aJ}{n w:Nat}{M:Nat->Nat->Rat}(l:h.le h')(r:RowsV h A n w M):RowsV h' A n w M:=by
 obtain ⟨c,s,e,r⟩:=r
 refine ⟨c,s.mono l,e,fun i a=>?_⟩
 obtain ⟨s,f,b,d,r⟩:=r i a
 exact ⟨s,f,b,d,r.mono I9 l⟩
def RowsV.congr{h:aG}{A:Option aJ}{n w:Nat}{M M':Nat->Nat->Rat}(r:RowsV h A n w M)(e:∀ i j,i<n->j<w->M i j=M' i j):RowsV h A n w M':=by
 obtain ⟨d,s,a,r⟩:=r
 refine ⟨d,s,a,fun i b=>?_⟩
 obtain ⟨s,a,c,f,r⟩:=r i b
 exact ⟨s,a,c,f,r.congr fun j g=>e i j b g⟩
def RowsV.at{h:aG}{A:Option aJ}{n w:Nat}{M:Nat->Nat->Rat}(r:RowsV h A n w M){i:Nat}(hi:i<n):∃ (a:aJ) (s:HV),A=some a/\s.n=w/\w<=s.c/\h.cell? (aE a (i*1))=some (.slice s.A s.n s.c)/\bG NQr h s.A w (M i):=by
 obtain ⟨j,s,e,r⟩:=r
 obtain ⟨u,b,f,l,r⟩:=r i hi
 obtain ⟨a,d,g⟩:=SlF.at (by decide) s (i:=i) (by omega)
 have k:j[i]=u:=by
  rw [aI (by omega)] at b;exact dG b
 have:=g 0 _ (by rw [k];rfl)
 rw [Iz] at this
 exact ⟨a,u,d,f,l,this,r⟩
structure Mt (h g o:aG) (bo:Nat) (rb:Nat->Nat) (n w:Nat) (M:Nat->Nat->Rat):Prop where
 sep:Sep h g o
 hd:∃ hd:List HV,RowB o bo hd/\hd.length=n/\∀ i,i<n->∃ c,hd[i]? = some ⟨some ⟨rb i,0,none⟩,w,c⟩/\w<=c
 nb:∀ i,i<n->rb i≠bo
 inj:∀ i j,i<n->j<n->rb i=rb j->i=j
 row:∀ i,i<n->∃ xs:List QV,RowB o (rb i) xs/\xs.length=w/\Row NQr g xs w (M i)
section
variable {h g o:aG} {bo n w:Nat} {rb:Nat->Nat} {M:Nat->Nat->Rat}
def Mt.next(t:Mt h g o bo rb n w M){h' g':aG}(s:Sep h' g' o)(l:g.le g'):Mt h' g' o bo rb n w M:=by
 refine ⟨s,t.hd,t.nb,t.inj,fun i b=>?_⟩
 obtain ⟨a,r,e,q⟩:=t.row i b
 exact ⟨a,r,e,q.mono I9 l⟩
def Mt.congr(t:Mt h g o bo rb n w M){M':Nat->Nat->Rat}(e:∀ i j,i<n->j<w->M i j=M' i j):Mt h g o bo rb n w M':=by
 refine ⟨t.sep,t.hd,t.nb,t.inj,fun i a=>?_⟩
 obtain ⟨b,r,d,q⟩:=t.row i a
 exact ⟨b,r,d,q.congr fun j c=>e i j a c⟩
def Mt.keep(t:Mt h g o bo rb n w M){h' g' o':aG}(s:Sep h' g' o')(l:g.le g')(hk:∀ k x,o k=some x->(k=bo\/∃ i,i<n/\k=rb i)->o' k=some x):Mt h' g' o' bo rb n w M:=by
 refine ⟨s,?_,t.nb,t.inj,fun i d=>?_⟩
 ·obtain ⟨f,⟨e,ex,b⟩,c,a⟩:=t.hd
  exact ⟨f,⟨e,ex,hk _ _ b (.inl rfl)⟩,c,a⟩
 ·obtain ⟨j,⟨e,ex,b⟩,c,a⟩:=t.row i d
  exact ⟨j,⟨e,ex,hk _ _ b (.inr ⟨i,d,rfl⟩)⟩,c,a.mono I9 l⟩
def Mt.own(t:Mt h g o bo rb n w M):(∃ x,o bo=some x)/\∀ i,i<n->∃ x,o (rb i)=some x:=by
 obtain ⟨d,⟨e,ex,a⟩,_⟩:=t.hd
 refine ⟨⟨_,a⟩,fun i b=>?_⟩
 obtain ⟨c,⟨e,ex,a⟩,_⟩:=t.row i b
 exact ⟨_,a⟩
def Mt.rowsV(t:Mt h g o bo rb n w M):RowsV h (some ⟨bo,0,none⟩) n w M:=by
 obtain ⟨j,r,e,q⟩:=t.hd
 refine ⟨j,r.slF t.sep.ole,e,fun i a=>?_⟩
 obtain ⟨c,m,f⟩:=q i a
 obtain ⟨k,l,d,b⟩:=t.row i a
 exact ⟨_,m,rfl,f,k,l.slF t.sep.ole,d,b.mono I9 t.sep.le⟩
def Mt.head(t:Mt h g o bo rb n w M){i:Nat}(hi:i<n):∃ c,w<=c/\o.cell? (aE ⟨bo,0,none⟩ (i*1))=some (.slice (some ⟨rb i,0,none⟩) w c):=by
 obtain ⟨d,r,e,q⟩:=t.hd
 obtain ⟨c,a,b⟩:=q i hi
 refine ⟨c,b,?_⟩
 have f:d[i]=⟨some ⟨rb i,0,none⟩,w,c⟩:=by
  rw [aI (by omega)] at a;exact dG a
 rw [E6,aN]
 exact r.cell (i:=i) (by omega) (j:=0) (by rw [f];rfl)
def Mt.elem(t:Mt h g o bo rb n w M){i j:Nat}(hi:i<n)(hj:j<w):∃ x:QV,NQ g x (M i j)/\o.cell? (aE (aE ⟨rb i,0,none⟩ (j*4)) 0)=some (.bool x.s)/\o.cell? (aE (aE ⟨rb i,0,none⟩ (j*4)) 1)=some (.slice x.A x.n x.c)/\o.cell? (aE (aE ⟨rb i,0,none⟩ (j*4)) 2)=some (.bool x.s2)/\o.cell? (aE (aE ⟨rb i,0,none⟩ (j*4)) 3)=some (.slice x.A2 x.n2 x.c2):=by
 obtain ⟨l,r,e,q⟩:=t.row i hi
 obtain ⟨x,a,b⟩:=q j hj
 have f:l[j]=x:=by
  rw [aI (by omega)] at a;exact dG a
 have cell:∀ k v,(enc x)[k]? = some v->o.cell? (aE (aE ⟨rb i,0,none⟩ (j*4)) k)=some v:=by
  intro k v d
  rw [E6,E6,aN]
  exact r.cell (i:=j) (by omega) (j:=k) (by rw [f];exact d)
 exact ⟨x,b,cell 0 _ rfl,cell 1 _ rfl,cell 2 _ rfl,cell 3 _ rfl⟩
def B6l(M:Nat->Nat->Rat)(i j:Nat)(q:Rat):Nat->Nat->Rat:=fun a b=>if a=i/\b=j then q else M a b
def Mt.store(t:Mt h g o bo rb n w M){i j:Nat}(hi:i<n)(hj:j<w){x:QV}{q:Rat}(hx:NQ g x q){K:Unit->aG->Prop}
 (k:∀ h' o',Mt h' g o' bo rb n w (B6l M i j q)->(∀ k,k≠rb i->o' k=o k)->K () h'):wpH prog (aT D0 (.pointer (some (aE ⟨rb i,0,none⟩ (j*4)))) x.v) K h:=by
 obtain ⟨L,r,e,s⟩:=t.row i hi
 rw [E6,aN]
 refine Sep.store (E:=inferInstanceAs (Enc QV)) Cq (v:=x.v) (y:=x) rfl t.sep r (i:=j) (by omega) rfl ?_
 intro h' o' J d F G
 refine k h' o' ⟨F,?_,t.nb,t.inj,fun a l=>?_⟩ (fun k u=>by rw [d,B9 _ _ u])
 ·obtain ⟨C,z,D,p⟩:=t.hd
  exact ⟨C,by rw [d];exact z.other (t.nb i hi).symm _,D,p⟩
 ·by_cases f:a=i
  ·subst f
   refine ⟨_,G,by simpa using e,?_⟩
   refine (Row.upd s (k:=j) (by omega) hx).congr fun b _=>?_
   unfold B6l
   by_cases c:b=j
   ·rw [iP c,iP ⟨rfl,c⟩]
   ·rw [iN c,iN (fun x=>c x.2)]
  ·obtain ⟨A,m,B,H⟩:=t.row a l
   refine ⟨A,by rw [d];exact m.other (fun e=>f (t.inj a i l hi e)) _,B,H.congr fun b _=>?_⟩
   unfold B6l
   rw [iN (fun x=>f x.1)]
def Mt.swap{P:cV}(t:Mt h g o bo rb n w M){i k:Nat}(hi:i<n)(hk:k<n){t':bY}(one:P.cellsOf t'=1/\(P.info? t').isSome=true){ci ck:Nat}(hci:o.cell? (aE ⟨bo,0,none⟩ (i*1))=some (.slice (some ⟨rb i,0,none⟩) w ci))(hck:o.cell? (aE ⟨bo,0,none⟩ (k*1))=some (.slice (some ⟨rb k,0,none⟩) w ck))(hcw:w<=ci)(hcw2:w<=ck){X:Unit->aG->Prop}
 (xx:∀ h1,(∀ {K:Unit->aG->Prop},(∀ h' o',Mt h' g o' bo (fun a=>rb (xch i k a)) n w (fun a=>M (xch i k a))->(∀ k,k≠bo->o' k=o k)->K () h')->wpH P (aT t' (.pointer (some (aE ⟨bo,0,none⟩ (i*1)))) (.slice (some ⟨rb k,0,none⟩) w ck)) K h1)->X () h1):
 wpH P (aT t' (.pointer (some (aE ⟨bo,0,none⟩ (k*1)))) (.slice (some ⟨rb i,0,none⟩) w ci)) X h:=by
 obtain ⟨J,r,e,q⟩:=t.hd
 rw [E6,aN]
 refine Sep.store (E:=inferInstanceAs (Enc HV)) one (v:=.slice (some ⟨rb i,0,none⟩) w ci) (y:=(⟨some ⟨rb i,0,none⟩,w,ci⟩:HV)) rfl t.sep r (i:=k) (by omega) rfl ?_
 intro h1 R T B H F
 refine xx h1 (fun {K} kk=>?_)
 rw [E6,aN]
 refine Sep.store (E:=inferInstanceAs (Enc HV)) one (v:=.slice (some ⟨rb k,0,none⟩) w ck) (y:=(⟨some ⟨rb k,0,none⟩,w,ck⟩:HV)) rfl H F (i:=i) (by simpa using (by omega:i<J.length)) rfl ?_
 intro s C S u O G
 have D:∀ b,b≠bo->C b=o b:=fun b f=>by rw [u,B9 _ _ f,B,B9 _ _ f]
 have j:∀ a,a<n->xch i k a<n:=fun a d=>Rp hi hk d
 have m:∀ a b,xch i k a=xch i k b->a=b:=fun a b h=>by rw [<- A5h (k:=i) (l:=k) (i:=a),h,A5h]
 refine kk s C ⟨O,⟨_,G,by simpa using e,fun a d=>?_⟩,fun a d=>t.nb _ (j a d),fun a b d f h=>m a b (t.inj _ _ (j a d) (j b f) h),fun a d=>?_⟩ D
 ·by_cases p:a=i
  ·subst p
   exact ⟨ck,by rw [bX (by simp;omega)];unfold xch;rw [iP rfl],hcw2⟩
  ·rw [bN (fun x=>p x.symm)]
   by_cases z:a=k
   ·subst z
    exact ⟨ci,by rw [bX (by omega)];unfold xch;rw [iN p,iP rfl],hcw⟩
   ·rw [bN (fun x=>z x.symm)]
    obtain ⟨c,h1,s⟩:=q a d
    exact ⟨c,by rw [h1];unfold xch;rw [iN p,iN z],s⟩
 ·obtain ⟨Q,N,ex,L⟩:=t.row _ (j a d)
  obtain ⟨e,A,f⟩:=N
  exact ⟨Q,⟨e,A,by rw [D _ (t.nb _ (j a d))];exact f⟩,ex,L⟩
end
def RWr(w:Nat):aG->HV->(Nat->Rat)->Prop:=fun h s f=>s.n=w/\w<=s.c/\bG NQr h s.A w f
def C3p(w:Nat):Mon (RWr w):=fun _ _ _ _ l i=>⟨i.1,i.2.1,i.2.2.mono I9 l⟩
def RowsV.of{h:aG}{A:Option aJ}{n w:Nat}{M:Nat->Nat->Rat}(r:bG (RWr w) h A n M):RowsV h A n w M:=r
def A77{α:Type}[E:Enc α]{P:cV}{t e ty:bY}{z:cC}{bytes:Nat}(st:SliceT P t e z E.default.size bytes){h g o:aG}(s:Sep h g o){A:Option aJ}{B:Option aJ}{d m:Nat}{ys:List α}(hm:m=ys.length)(hne:ys≠[])(sy:SlF h B ys)
 (hb:(2*ys.length+192)*bytes<=281474976710656) (hn:ys.length<=9223372036854775807) {K:VP}
 (x:∀ b c' h' g' o' y,o'=o.put b y->h b=none->g.le g'->Sep h' g' o'->ys.length<=c'->RowB o' b ys->K (.slice (some ⟨b,0,none⟩) m c') h'):wpH P (bL #[t,t] ty #[.slice A 0 0,.slice B m d]) K h:=by
 have p:PrivF h h e A 0 ([]:List α):=PrivF.nil h e A
 refine Kf st p hm sy (by simpa using hb) (by simpa using hn) ?_
 intro A' c' h' g' l f
 rw [List.nil_append] at f
 obtain ⟨b,y,q,a,D,_,w⟩:=B5c f hne
 obtain ⟨r,i,C⟩:=s.after l
 have j:=f.2.1
 have k:h b=none:=by
  cases hx:h b with
  | none=>rfl
  | some u=>rw [l b u hx] at a;cases a
 subst D
 obtain ⟨n,ex,c⟩:=w
 rw [C0] at c
 have:=x b c' _ r (o.put b y) y rfl k i (C.new a y) j ⟨n,ex,by rw [C0];exact c⟩
 rw [q,List.nil_append,<- hm]
 exact this
section
variable {h:aG} {K:VP} {A:Option aJ} {n cap m w:Nat} {r c:Int} {ls:Nat->List UInt8} {M:Nat->Nat->Rat}
def B0d{rcap:Nat}(rs:RowsV h A n w M)(hn:n<=1000000)(hw1:1<=w)(hw:w<=1000000)(hn1:1<=n)
 (hK:∀ h' g' o' bo rb c',h.le g'->Mt h' g' o' bo rb n w M->K (.slice (some ⟨bo,0,none⟩) n c') h'):aX prog A6u #[.slice A n rcap] h K:=by
 refine B90 _ _ _ ?_
 unfold C51
 refine ⟨fun L hp=>∃ (k:Nat) (g o:aG) (C:List HV) (rb:Nat->Nat) (A':Option aJ) (c':Nat),k<=n/\L=[.slice A' k c',I (k:Int)]/\h.le g/\Sep hp g o/\OwnSl o J6 A' c' C/\C.length=k/\(∀ i,i<k->∃ c,C[i]? = some ⟨some ⟨rb i,0,none⟩,w,c⟩/\w<=c)/\(∀ i,i<k->A'≠some ⟨rb i,0,none⟩)/\(∀ i j,i<k->j<k->rb i=rb j->i=j)/\∀ i,i<k->∃ r:List QV,RowB o (rb i) r/\r.length=w/\Row NQr g r w (M i),fun L _=>n-(iAt L 1).toNat,
  ⟨0,h,Bh,[],fun _=>0,none,0,by omega,rfl,B4 _,Sep.refl h,OwnSl.nil,rfl,fun i p=>by omega,fun i p=>by omega,fun i j p=>by omega,fun i p=>by omega⟩,?_⟩
 rintro oA on oc z hp ⟨k,g,o,C,rb,A',c',hk,eL,T,s,ow,b,t,D,B,m⟩
 obtain ⟨⟨rfl,rfl,rfl⟩,rfl⟩:=sI2 eL
 refine B7 (fun ap=>?_) (fun am=>?_)
 ·have ai:on<n:=by omega
  refine Qj Ng ?_
  intro be E
  have S:=s.vis E (.cells #[] D0)
  have Q:g.le (g.put be (.cells #[] D0)):=Heap.le_put _ (by
   cases u:g be with
   | none=>rfl
   | some y=>rw [s.le _ _ u] at E;cases E)
  have N:=B0 T Q
  obtain ⟨a,sv,ea,O,H,hc,r,sx,R,qx⟩:=rs.at ai
  refine ⟨_,_,_,rfl,a,ea,by omega,by omega,_,_,_,B5 (B0 N S.le) hc,?_⟩
  refine A77 Ng S (ys:=r) (by omega) (by rintro rfl;simp at R;omega) (sx.mono (B0 N S.le)) (by omega) (by omega) ?_
  intro l c2 h2 g2 o2 y Z J l2 s2 an ah
  refine ⟨_,_,_,rfl,?_⟩
  have d:∀ q x,o q=some x->q≠l:=by
   rintro q x e rfl
   have:=S.ole q x e
   rw [this] at J;cases J
  have ae:OwnSl o2 J6 oA oc C:=ow.keep fun q x _ e=>by rw [Z,B9 _ _ (d q x e)];exact e
  have ak:oA≠some ⟨l,0,none⟩:=by
   intro hA
   rcases ow.2 with ⟨_,h0⟩|⟨b',ao,F,ag,_⟩
   ·rw [hA] at h0;cases h0
   ·rw [hA] at F
    simp only [aQ,aZ,and_true] at F
    exact d _ _ ag F.symm
  refine O6 (ty:=Kv) C5h s2 ae b.symm (y:=(⟨some ⟨l,0,none⟩,sv.n,c2⟩:HV)) rfl (by decide) (by rw [b];omega) (by rw [b];omega) ?_
  intro A3 c3 h3 g3 o3 l3 s3 aa X
  have W:∀ i,i<on->∃ x,o (rb i)=some x:=fun i p=>by
   obtain ⟨r,⟨e,ex,hb⟩,_⟩:=m i p;exact ⟨_,hb⟩
  obtain ⟨e5,aj,ad⟩:=id ah
  have k2:=X l _ ad ak
  rw [b,wiS on (by omega)]
  have f:=B0 Q (B0 l2 l3)
  refine ⟨⟨on+1,g3,o3,_,fun i=>if i=on then l else rb i,A3,c3,by omega,rfl,B0 T f,s3,aa,by rw [aC,b];rfl,fun i p=>?_,fun i p=>?_,fun i j p hj h=>?_,fun i p=>?_⟩,?_⟩
  ·show ∃ c,(C++[(⟨some ⟨l,0,none⟩,sv.n,c2⟩:HV)])[i]? = some ⟨some ⟨if i=on then l else rb i,0,none⟩,w,c⟩/\w<=c
   by_cases e:i=on
   ·subst e
    exact ⟨c2,by rw [bJ (by omega),b,iP rfl,O];simp,by omega⟩
   ·obtain ⟨c,h1,h2⟩:=t i (by omega)
    exact ⟨c,by rw [aW (by omega),iN e];exact h1,h2⟩
  ·show A3≠some ⟨if i=on then l else rb i,0,none⟩
   by_cases e:i=on
   ·rw [iP e];exact k2.2
   ·rw [iN e]
    obtain ⟨x,u⟩:=W i (by omega)
    exact (X (rb i) x (by rw [Z,B9 _ _ (d _ _ u)];exact u) (D i (by omega))).2
  ·have h':(if i=on then l else rb i)=(if j=on then l else rb j):=h
   by_cases O:i=on
   ·by_cases H:j=on
    ·omega
    ·rw [iP O,iN H] at h'
     obtain ⟨x,u⟩:=W j (by omega)
     exact absurd h'.symm (d _ _ u)
   ·by_cases H:j=on
    ·rw [iN O,iP H] at h'
     obtain ⟨x,u⟩:=W i (by omega)
     exact absurd h' (d _ _ u)
    ·rw [iN O,iN H] at h'
     exact B i j (by omega) (by omega) h'
  ·show ∃ r:List QV,RowB o3 (if i=on then l else rb i) r/\_
   by_cases e:i=on
   ·subst e
    rw [iP rfl]
    exact ⟨r,⟨e5,aj,k2.1⟩,R,qx.mono I9 (B0 T f)⟩
   ·rw [iN e]
    obtain ⟨ys,⟨ey,al,G⟩,af,qy⟩:=m i (by omega)
    refine ⟨ys,⟨ey,al,?_⟩,af,qy.mono I9 f⟩
    exact (X (rb i) _ (by rw [Z,B9 _ _ (d _ _ G)];exact G) (D i (by omega))).1
  ·show n-((on+1:Nat):Int).toNat<n-((on:Nat):Int).toNat
   omega
 ·have ac:on=n:=by omega
  subst ac
  obtain ⟨bo,rfl,V⟩:=ow.rowB (by rintro rfl;simp at b;omega)
  exact hK hp g o bo rb oc T ⟨s,⟨C,V,b,t⟩,fun i p e=>D i p (by rw [e]),B,m⟩
end
section
variable {α:Type} [E:Enc α]
def OwnSl.app{P:cV}{t e ty:bY}{z:cC}{bytes:Nat}(st:SliceT P t e z E.default.size bytes){h g o:aG}{A:Option aJ}{c:Nat}{xs:List α}(s:Sep h g o)(w:OwnSl o e A c xs){B:Option aJ}{d m n:Nat}{ys:List α}(hxn:n=xs.length)(hm:m=ys.length)(hne:ys≠[])(sy:SlF h B ys)(hb:(2*(xs.length+ys.length)+192)*bytes<=281474976710656)(hn:xs.length+ys.length<=9223372036854775807){K:VP}
 (x:∀ A' c' h' g' o',g.le g'->Sep h' g' o'->OwnSl o' e A' c' (xs++ys)->(∀ k u,o k=some u->A≠some ⟨k,0,none⟩->o' k=some u/\A'≠some ⟨k,0,none⟩)->K (.slice A' (xs.length+m) c') h'):
 wpH P (bL #[t,t] ty #[.slice A n c,.slice B m d]) K h:=by
 subst hxn
 obtain ⟨gb,p,G⟩:=w.priv s
 refine Kf st p hm sy hb hn ?_
 intro A' c' h' g' hg R
 rw [aC,<- hm]
 have F:∀ k u,h k=some u->A≠some ⟨k,0,none⟩->g' k=some u:=by
  intro k u a hne
  exact hg k u (G k u a hne)
 have M:∀ k u,g k=some u->A≠some ⟨k,0,none⟩:=by
  intro k u a j
  rcases w.2 with ⟨_,V⟩|⟨f,l,i,q,_⟩
  ·rw [j] at V;cases V
  ·rw [j] at i
   simp only [aQ,aZ,and_true] at i
   subst i
   rw [s.dis k _ q] at a;cases a
 rcases R.2.2 with ⟨aa,_⟩|⟨f,l,i,q,L,Z,ht⟩
 ·exfalso
  have:=R.2.1
  rw [aC] at this
  have:ys.length≠0:=fun h=>hne (cR h)
  omega
 ·subst i
  let o':aG:=fun k=>if k=f then some (.cells (cP l) e) else if A=some ⟨k,0,none⟩ then none else o k
  have T:o' f=some (.cells (cP l) e):=by show (if f=f then _ else _)=_;rw [iP rfl]
  have S:∀ k,k≠f->A≠some ⟨k,0,none⟩->o' k=o k:=fun k H r=>by show (if k=f then _ else if _ then _ else _)=_;rw [iN H,iN r]
  have Q:∀ k,k≠f->A=some ⟨k,0,none⟩->o' k=none:=fun k H r=>by show (if k=f then _ else if _ then _ else _)=_;rw [iN H,iP r]
  let g2:aG:=fun k=>match o' k with|some _=>none|none=>h' k
  have gs:∀ k u,o' k=some u->g2 k=none:=fun k u a=>by show (match o' k with|some _=>none|none=>h' k)=_;rw [a]
  have X:∀ k,o' k=none->g2 k=h' k:=fun k a=>by show (match o' k with|some _=>none|none=>h' k)=_;rw [a]
  have C:∀ k u,k≠f->g' k=some u->h' k=some u:=fun k u H a=>by rw [L,B9 _ _ H];exact a
  have J:∀ k u,o k=some u->A≠some ⟨k,0,none⟩->k≠f:=by
   rintro k u a r rfl
   have:=F k u (s.own k u a) r
   rw [q] at this;cases this
  refine x _ c' h' g2 o' (fun k u a=>?_) ⟨fun k u a=>?_,fun k a=>(X k a).symm,gs⟩ ⟨R.2.1,.inr ⟨f,l,rfl,T,Z,ht⟩⟩ (fun k u a r=>?_)
  ·have N:o k=none:=by
    cases ho:o k with
    | none=>rfl
    | some y=>rw [s.dis k y ho] at a;cases a
   have j:=M k u a
   have O:=F k u (s.le k u a) j
   have D:k≠f:=by rintro rfl;rw [q] at O;cases O
   rw [X k (by rw [S k D j];exact N)]
   exact C k u D O
  ·by_cases b:k=f
   ·subst b
    rw [T] at a;cases a
    rw [L,C0]
   ·by_cases j:A=some ⟨k,0,none⟩
    ·rw [Q k b j] at a;cases a
    ·rw [S k b j] at a
     exact C k u b (F k u (s.own k u a) j)
  ·have b:=J k u a r
   refine ⟨by rw [S k b r];exact a,fun W=>b ?_⟩
   simp only [aQ,aZ,and_true] at W
   exact W.symm
end
def Qm(M:Nat->Nat->Rat)(w:Nat):Nat->List UInt8:=fun k=>I8 (M (k/w) (k%w))
section
variable {h:aG} {K:VP} {A:Option aJ} {n cap m w:Nat} {M:Nat->Nat->Rat}
def B0c(rs:RowsV h A n w M)(hn:n<=10000)(hw1:1<=w)(hw:w<=10000)(hn1:1<=n)(hs:∀ i j,i<n->j<w->Sz m (M i j))(hm:m<=400000000)
 (hK:∀ A' c' h',h.le h'->n*w<=c'->bG SSr h' A' (n*w) (Qm M w)->K (Yo n w A' (n*w) c') h'):aX prog A6t #[.slice A n cap] h K:=by
 refine B8z _ _ _ ?_
 unfold C50
 refine E4 (fun e=>by omega) (fun _=>?_)
 obtain ⟨a,sv,rfl,l,e2,W,_⟩:=rs.at (i:=0) (by omega)
 have ac:n*w<=10000*10000:=bB hn hw
 refine ⟨a,rfl,by omega,by omega,_,_,_,W,fun L E=>∃ (k:Nat) (g o:aG) (r:List (List UInt8)) (A':Option aJ) (c':Nat),k<=n/\L=[I (k:Int),I (n:Int),I (w:Int),.slice A' (k*w) c']/\h.le g/\Sep E g o/\OwnSl o J8 A' c' r/\r.length=k*w/\Row SSr g r (k*w) (Qm M w),fun L _=>n-(iAt L 0).toNat,⟨0,h,Bh,[],none,0,by omega,by rw [l,bM];rfl,B4 _,Sep.refl h,OwnSl.nil,by simp,by rw [bM];exact Row.nil⟩,?_⟩
 rintro z m0 m1 X mn S E ⟨k,g,o,r,A',c',hk,J,t,s,F,b,O⟩
 simp only [bF,cJ,bC,true_and,and_true] at J
 obtain ⟨rfl,rfl,rfl,rfl,rfl,rfl⟩:=J
 refine B7 (fun ad=>?_) (fun Q=>?_)
 ·have f:k<n:=by omega
  obtain ⟨a1,s1,ea,f1,f2,B,row⟩:=rs.at f
  have G:=B0 t s.le
  have p:(k+1)*w=k*w+w:=by rw [aK,aM]
  have aa:(k+1)*w<=n*w:=aD _ f
  refine ⟨a1,ea,by omega,by omega,_,_,_,B5 G B,?_⟩
  rw [f1]
  refine s.call (Ej (row.mono I9 t) (by omega) (fun j hj=>hs k j f hj) (by omega) ?_)
  intro b2 g2 own h2 H
  have q:=own.le
  obtain ⟨ys,Z,d,qy⟩:=own.vis L7
  refine ⟨_,_,_,rfl,s.le_le H q,?_⟩
  refine OwnSl.app (ty:=Fq) Ft H F (by omega) d.symm (by rintro rfl;simp at d;omega) (Z.mono H.le) (by omega) (by omega) ?_
  intro A3 c3 h3 g3 o3 R T C _
  rw [b,<- p,wiS k (by omega)]
  refine ⟨_,_,_,rfl,⟨k+1,g3,o3,_,A3,c3,by omega,rfl,B0 t (B0 q R),T,C,by rw [aC,b,d,p],fun i hi=>?_⟩,by simp only [Bk];omega⟩
  by_cases e:i<k*w
  ·obtain ⟨u,l,D⟩:=O i e
   exact ⟨u,by rw [aW (by omega)];exact l,D⟩
  ·obtain ⟨j0,rfl⟩:∃ j0,i=k*w+j0:=⟨i-k*w,by omega⟩
   have c:j0<w:=by omega
   obtain ⟨u,l,D⟩:=qy j0 c
   refine ⟨u,by rw [bJ (by omega),b,cM];exact l,?_⟩
   have y:u=I8 (M k j0):=D
   have V:(k*w+j0)/w=k:=by rw [aL,dH (by omega),bH c,cY]
   have x:(k*w+j0)%w=j0:=by rw [aL,Nat.mul_add_mod,cH c]
   show u=Qm M w (k*w+j0)
   unfold Qm
   rw [V,x];exact y
 ·have:k=n:=by omega
  subst this
  have N:=F.1
  exact hK X S E (B0 t s.le) (by omega) ⟨r,F.slF s.ole,b,O.mono L7 s.le⟩
end
abbrev ecE(M:Nat->Nat->Rat)(n c:Nat):ES:=A86 n ⟨M,[],1⟩ c
def B2j{n:Nat}{s:ES}{c:Nat}(h:n<=(A86 n s c).cs.length):∀ d,A86 n s (c+d)=A86 n s c:=by
 intro d
 induction d with
 | zero=>rfl
 | succ d ih=>
  show Fv n (c+d) (A86 n s (c+d))=_
  rw [ih]
  unfold Fv
  rw [iN (by omega)]
def Lv(M:Nat->Nat->Rat)(n:Nat):∀ c,(ecE M n c).cs.length<=c/\(ecE M n c).cs.length<=n:=by
 intro c
 induction c with
 | zero=>exact ⟨aF _,bU _⟩
 | succ c ih=>
  show (Fv n c (ecE M n c)).cs.length<=c+1/\(Fv n c (ecE M n c)).cs.length<=n
  unfold Fv
  split
  ·split
   ·show ((ecE M n c).cs++[c]).length<=c+1/\((ecE M n c).cs++[c]).length<=n
    rw [aC]
    exact ⟨Nat.succ_le_succ ih.1,by simp only [List.length_cons,List.length_nil];omega⟩
   ·show (ecE M n c).cs.length<=c+1/\_
    exact ⟨cU ih.1,ih.2⟩
  ·exact ⟨cU ih.1,ih.2⟩
def B45(M:Nat->Nat->Rat)(n c:Nat):Rat:=if (ecE M n c).cs.length<c then 0 else (ecE M n c).det
abbrev qc(w:QV):List cC:=[.bool w.s,.slice w.A w.n w.c,.bool w.s2,.slice w.A2 w.n2 w.c2]
def C10{w:QV}{a b:Bool}{A B:Option aJ}{n c n' c':Nat}{l l':List cC}(h:(.bool a:cC) :: .slice A n c :: .bool b :: .slice B n' c'::l= .bool w.s :: .slice w.A w.n w.c :: .bool w.s2 :: .slice w.A2 w.n2 w.c2::l'):(⟨a,A,n,c,b,B,n',c'⟩:QV)=w/\l=l':=by
 simp only [bF,cG,bC] at h
 obtain ⟨rfl,⟨rfl,rfl,rfl⟩,rfl,⟨rfl,rfl,rfl⟩,h⟩:=h
 exact ⟨rfl,h⟩
def Xa(bo:Nat)(rb:Nat->Nat)(n:Nat)(A:Option aJ):Prop:=A≠some ⟨bo,0,none⟩/\∀ i,i<n->A≠some ⟨rb i,0,none⟩
section
variable {g o h11 h14 h15 hp2:aG} {bo n w r c i B:Nat} {rb:Nat->Nat} {R:Nat->Nat->Rat} {x:QV} {q:Rat} {Invv Invv3:LP} {muv muv3:LN}
def C5y(t:Mt h15 g o bo rb n w R)(hi:i<n)(hr:r<n)(hir:i≠r)(hcw:c<=w)(hn:n<=10000)(hw:w<=10000)(ix:NQ g x q)(s1:∀ b,b<w->Sz B (R i b))(s2:∀ b,b<w->Sz (B+B) (R r b))(s3:Sz B q)(hB:B*7<=100000000)
 (fin:∀ h' g' o',g.le g'->Mt h' g' o' bo rb n w (fun a b=>if a=i/\c<=b then R i b-q*R r b else R a b)->(∀ b,(∀ i,i<n->b≠rb i)->o' b=o b)->Invv3 [I (B6 ((i:Int)+1))] h'/\muv3 [I (B6 ((i:Int)+1))] h'<muv3 [I (i:Int)] h14):
 Mf prog (some ⟨bo,0,none⟩) n r (c:Int) Invv3 muv3 (i:Int) x.s x.A x.n x.c x.s2 x.A2 x.n2 x.c2 h15 h14:=by
 unfold Mf
 refine ⟨fun L hq=>∃ (k:Nat) (g' o':aG),c<=k/\k<=w/\L=[I (k:Int)]/\g.le g'/\Mt hq g' o' bo rb n w (fun a b=>if a=i/\c<=b/\b<k then R i b-q*R r b else R a b)/\(∀ b,(∀ i,i<n->b≠rb i)->o' b=o b),fun L _=>w-(iAt L 0).toNat,⟨c,g,o,aF _,hcw,rfl,B4 _,t.congr (fun a b _ _=>by rw [iN (by omega)]),fun _ _=>rfl⟩,?_⟩
 rintro z N ⟨k,X,o6,M,ae,J,Q,e,m⟩
 obtain rfl:=sI1 J
 obtain ⟨c6,ad,H⟩:=e.head hi
 have l:=e.sep.cell H
 refine ⟨_,rfl,by omega,by omega,_,_,_,l,B7 (fun ah=>?_) (fun Z=>?_)⟩
 ·have d:k<w:=by omega
  obtain ⟨c7,af,F⟩:=e.head hr
  obtain ⟨y,T,y0,y1,y2,y3⟩:=e.elem hi d
  obtain ⟨v,V,v0,v1,v2,v3⟩:=e.elem hr d
  rw [iN (by omega)] at T
  rw [iN (fun x=>hir x.1.symm)] at V
  refine ⟨_,rfl,by omega,by omega,_,_,_,l,_,rfl,by omega,by omega,_,_,_,l,_,rfl,by omega,by omega,_,_,_,_,_,_,_,_,e.sep.cell y0,e.sep.cell y1,e.sep.cell y2,e.sep.cell y3,_,rfl,by omega,by omega,_,_,_,e.sep.cell F,_,rfl,by omega,by omega,_,_,_,_,_,_,_,_,e.sep.cell v0,e.sep.cell v1,e.sep.cell v2,e.sep.cell v3,?_⟩
  refine e.sep.call (No (ix.mono Q) V (s3.mono (show B<=B+B by omega)) (s2 k d) (by omega) ?_)
  intro w7 g7 E i7 ag f
  have t7:=e.next f E
  refine ⟨_,_,_,_,_,_,_,_,rfl,e.sep.le_le f E,?_⟩
  refine f.call (A32 (T.mono E) i7 ((s1 k d).mono (show B<=B+(B+B) by omega)) (s3.mul (s2 k d)) (by omega) ?_)
  intro w8 W S i8 aa u
  have t8:=t7.next u S
  refine ⟨_,_,_,_,_,_,_,_,rfl,f.le_le u S,_,rfl,by omega,by omega,?_⟩
  refine t8.store hi d (x:=w8) i8 ?_
  intro ac G O p
  rw [wiS k (by omega)]
  refine ⟨⟨k+1,W,G,by omega,by omega,rfl,B0 Q (B0 E S),O.congr (fun a b _ _=>?_),fun b C=>by rw [p b (C _ hi),m b C]⟩,by simp only [Bk];omega⟩
  show (if a=i/\b=k then R i k-q*R r k else if a=i/\c<=b/\b<k then R i b-q*R r b else R a b)=if a=i/\c<=b/\b<k+1 then R i b-q*R r b else R a b
  by_cases j:a=i/\b=k
  ·obtain ⟨rfl,rfl⟩:=j
   rw [iP ⟨rfl,rfl⟩,iP ⟨rfl,M,by omega⟩]
  ·rw [iN j]
   by_cases D:a=i/\c<=b/\b<k
   ·rw [iP D,iP ⟨D.1,D.2.1,by omega⟩]
   ·rw [iN D,iN (by omega)]
 ·have d:k=w:=by omega
  subst d
  refine fin N X o6 Q (e.congr (fun a b _ C=>?_)) m
  by_cases j:a=i/\c<=b
  ·rw [iP j,iP ⟨j.1,j.2,C⟩]
  ·rw [iN j,iN (fun x=>j ⟨x.1,x.2.1⟩)]
def C5z{pA:Option aJ}{pc:Nat}{d0 d2 e0 e2:Bool}{d1A d3A e1A e3A:Option aJ}{d1n d1c d3n d3c e1n e1c e3n e3c:Nat}(t:Mt h11 g o bo rb n w (fun a b=>if a=r then R r b/R r c else R a b))(hr:r<n)(hcw:c<w)(hn:n<=10000)(hw:w<=10000)(hB1:1<=B)(hR:∀ a b,a<n->b<w->Sz B (R a b))(hB:B*7<=100000000)
 (fin:∀ h' g' o',g.le g'->Mt h' g' o' bo rb n w (elimE R r c)->(∀ b,(∀ i,i<n->b≠rb i)->o' b=o b)->wpH prog (cI Fs 1 #[(0,I (c:Int))]) (fun v hp20=>∃ (t167A:Option aJ) (t167n:Nat) (t167c:Nat),v= .slice t167A t167n t167c/\wpH prog (bL #[Fs,Fs] Fs #[.slice pA r pc,.slice t167A t167n t167c]) (fun v1 hp21=>∃ (t168A:Option aJ) (t168n:Nat) (t168c:Nat),v1= .slice t168A t168n t168c/\Invv [.slice t168A t168n t168c,I (B6 ((c:Int)+(1:Int))),.bool e0,.slice e1A e1n e1c,.bool e2,.slice e3A e3n e3c] hp21/\muv [.slice t168A t168n t168c,I (B6 ((c:Int)+(1:Int))),.bool e0,.slice e1A e1n e1c,.bool e2,.slice e3A e3n e3c] hp21<muv [.slice pA r pc,I (c:Int),.bool d0,.slice d1A d1n d1c,.bool d2,.slice d3A d3n d3c] hp2) hp20) h'):
 Hb prog (some ⟨bo,0,none⟩) n Invv muv pA r pc (c:Int) d0 d1A d1n d1c d2 d3A d3n d3c e0 e1A e1n e1c e2 e3A e3n e3c hp2 h11:=by
 unfold Hb
 refine ⟨fun L m=>∃ (i:Nat) (g' o':aG),i<=n/\L=[I (i:Int)]/\g.le g'/\Mt m g' o' bo rb n w (fun a b=>if a=r then R r b/R r c else if a<i then elimE R r c a b else R a b)/\(∀ b,(∀ i,i<n->b≠rb i)->o' b=o b),fun L _=>n-(iAt L 0).toNat,⟨0,g,o,by omega,rfl,B4 _,t.congr (fun a b _ l=>?_),fun _ _=>rfl⟩,?_⟩
 ·by_cases d:a=r
  ·rw [iP d,iP d]
  ·rw [iN d,iN d,iN (by omega)]
 rintro z y ⟨i,O,S,hi,F,C,k,p⟩
 obtain rfl:=sI1 F
 have u:B6 ((i:Int)+1)=((i+1:Nat):Int):=by rw [B8]<;>omega
 refine B7 (fun Q=>?_) (fun N=>?_)
 ·have f:i<n:=by omega
  obtain ⟨c5,aa,J⟩:=k.head f
  obtain ⟨x,H,x0,x1,Z,T⟩:=k.elem f hcw
  refine ⟨_,rfl,by omega,by omega,_,_,_,k.sep.cell J,_,rfl,by omega,by omega,_,_,_,_,_,_,_,_,k.sep.cell x0,k.sep.cell x1,k.sep.cell Z,k.sep.cell T,?_⟩
  have same:∀ (m:i=r\/R i c=0),(∃ (i':Nat) (g' o':aG),i'<=n/\[I (B6 ((i:Int)+1))]=[I (i':Int)]/\g.le g'/\Mt y g' o' bo rb n w (fun a b=>if a=r then R r b/R r c else if a<i' then elimE R r c a b else R a b)/\(∀ b,(∀ i,i<n->b≠rb i)->o' b=o b))/\n-(iAt [I (B6 ((i:Int)+1))] 0).toNat<n-(iAt [I (i:Int)] 0).toNat:=by
   intro m
   rw [u]
   refine ⟨⟨i+1,O,S,by omega,rfl,C,k.congr (fun a b _ _=>?_),p⟩,by simp only [Bk];omega⟩
   by_cases d:a=r
   ·rw [iP d,iP d]
   ·rw [iN d,iN d]
    by_cases q:a<i
    ·rw [iP q,iP (by omega)]
    ·rw [iN q]
     by_cases M:a<i+1
     ·rw [iP M]
      have:a=i:=by omega
      subst this
      rcases m with m|m
      ·exact absurd m d
      ·unfold elimE
       rw [iN d,iP (.inl m)]
     ·rw [iN M]
  refine E4 (fun he=>same (.inl (by omega))) (fun he=>?_)
  have j:i≠r:=by omega
  rw [iN j,iN (aS i)] at H
  refine En (H.mono k.sep.le) ⟨_,rfl,E4 (fun e=>?_) (fun e=>?_)⟩
  ·exact same (.inr (by rw [dL] at e;exact Rat.num_eq_zero.1 e))
  have E:R i c≠0:=fun h=>e (by rw [h];rfl)
  refine C5y (B:=B) k f hr j (by omega) hn hw H (fun b l=>by rw [iN j,iN (aS i)];exact hR i b f l) (fun b l=>by rw [iP rfl];exact (hR r b hr l).div (hR r c hr hcw) hB1) (hR i c f hcw) hB ?_
  intro ac W X l6 t6 G
  rw [u]
  refine ⟨⟨i+1,W,X,by omega,rfl,B0 C l6,t6.congr (fun a b _ l=>?_),fun b l=>by rw [G b l,p b l]⟩,by simp only [Bk];omega⟩
  by_cases d:a=i
  ·subst d
   rw [iN j,iP (show a<a+1 by omega)]
   unfold elimE
   rw [iN j]
   by_cases s:c<=b
   ·have D:¬ (R a c=0\/b<c):=by
     rintro (h|h)
     ·exact E h
     ·omega
    rw [iP ⟨rfl,s⟩,iN j,iN (aS a),iP rfl,iN D]
   ·rw [iN (fun x=>s x.2),iN j,iN (aS a),iP (.inr (by omega))]
  ·rw [iN (fun x=>d x.1)]
   by_cases A:a=r
   ·rw [iP A,iP A]
   ·rw [iN A,iN A]
    by_cases q:a<i
    ·rw [iP q,iP (by omega)]
    ·rw [iN q,iN (by omega)]
 ·have f:i=n:=by omega
  subst f
  exact fin y O S C (k.congr (fun a b V _=>by
   by_cases d:a=r
   ·rw [iP d];unfold elimE;rw [iP d]
   ·rw [iN d,iP V])) p
def C60{h10:aG}{xf:QV}{pA:Option aJ}{pc:Nat}{d0 d2 e0 e2:Bool}{d1A d3A e1A e3A:Option aJ}{d1n d1c d3n d3c e1n e1c e3n e3c:Nat}(t:Mt h10 g o bo rb n w R)(hr:r<n)(hcw:c<w)(hn:n<=10000)(hw:w<=10000)(ixf:NQ g xf (R r c))(hR:∀ b,b<w->Sz B (R r b))(hB:B*7<=100000000)
 (fin:∀ h' g' o',g.le g'->Mt h' g' o' bo rb n w (fun a b=>if a=r then R r b/R r c else R a b)->(∀ b,(∀ i,i<n->b≠rb i)->o' b=o b)->Hb prog (some ⟨bo,0,none⟩) n Invv muv pA r pc (c:Int) d0 d1A d1n d1c d2 d3A d3n d3c e0 e1A e1n e1c e2 e3A e3n e3c hp2 h'):
 Mh prog (some ⟨bo,0,none⟩) n Invv muv pA r pc (c:Int) d0 d1A d1n d1c d2 d3A d3n d3c xf.s xf.A xf.n xf.c xf.s2 xf.A2 xf.n2 xf.c2 e0 e1A e1n e1c e2 e3A e3n e3c h10 hp2:=by
 unfold Mh
 refine ⟨fun L hq=>∃ (j:Nat) (g' o':aG),j<=w/\L=[I (j:Int)]/\g.le g'/\Mt hq g' o' bo rb n w (fun a b=>if a=r/\b<j then R r b/R r c else R a b)/\(∀ b,(∀ i,i<n->b≠rb i)->o' b=o b),fun L _=>w-(iAt L 0).toNat,⟨0,g,o,by omega,rfl,B4 _,t.congr (fun a b _ _=>by rw [iN (by omega)]),fun _ _=>rfl⟩,?_⟩
 rintro z F ⟨j,X,Z,hj,D,C,d,k⟩
 obtain rfl:=sI1 D
 obtain ⟨W,M,E⟩:=d.head hr
 have f:=d.sep.cell E
 refine ⟨_,rfl,by omega,by omega,_,_,_,f,B7 (fun ad=>?_) (fun O=>?_)⟩
 ·have e:j<w:=by omega
  obtain ⟨x,J,x0,T,Q,N⟩:=d.elem hr e
  rw [iN (by omega)] at J
  refine ⟨_,rfl,by omega,by omega,_,_,_,f,_,rfl,by omega,by omega,_,_,_,f,_,rfl,by omega,by omega,_,_,_,_,_,_,_,_,d.sep.cell x0,d.sep.cell T,d.sep.cell Q,d.sep.cell N,?_⟩
  refine d.sep.call (A3a J (ixf.mono C) (hR _ e) (hR _ hcw) (by omega) ?_)
  intro w5 V y i5 ac l
  refine ⟨_,_,_,_,_,_,_,_,rfl,d.sep.le_le l y,_,rfl,by omega,by omega,?_⟩
  have S:=d.next l y
  refine S.store hr e (x:=w5) i5 ?_
  intro aa u G m
  rw [wiS j (by omega)]
  refine ⟨⟨j+1,V,u,by omega,rfl,B0 C y,G.congr (fun a b _ _=>?_),fun b p=>by rw [m b (p _ hr),k b p]⟩,by simp only [Bk];omega⟩
  show (if a=r/\b=j then R r j/R r c else if a=r/\b<j then R r b/R r c else R a b)=if a=r/\b<j+1 then R r b/R r c else R a b
  by_cases H:a=r/\b=j
  ·obtain ⟨rfl,rfl⟩:=H
   rw [iP ⟨rfl,rfl⟩,iP ⟨rfl,by omega⟩]
  ·rw [iN H]
   by_cases e2:a=r/\b<j
   ·rw [iP e2,iP ⟨e2.1,by omega⟩]
   ·rw [iN e2,iN (by omega)]
 ·have e:j=w:=by omega
  subst e
  refine fin F X Z C (d.congr (fun a b _ p=>?_)) k
  by_cases q:a=r
  ·rw [iP ⟨q,p⟩,iP q]
  ·rw [iN (fun x=>q x.1),iN q]
end
section
variable {g o h5 h9 hp2:aG} {bo n w r c B k:Nat} {rb:Nat->Nat} {R:Nat->Nat->Rat} {q:Rat} {Invv:LP} {muv:LN} {pA:Option aJ} {pc:Nat} {wd wd0:QV} {l:List Nat}
def C61(hl:l.length=r)(t:Mt h9 g o bo rb n w R)(ow:OwnSl o F3 pA pc (zs l))(ap:Xa bo rb n pA)(iq:NQ g wd q)(hr:r<n)(hcw:c<w)(hn:n<=10000)(hw:w<=10000)(hB1:1<=B)(hq:Sz B q)(hR:∀ a b,a<n->b<w->Sz B (R a b))(hB:B*7<=100000000)
 (fin:∀ h' g' o' A' c' wd',g.le g'->Mt h' g' o' bo rb n w (elimE R r c)->OwnSl o' F3 A' c' (zs (l++[c]))->Xa bo rb n A'->NQ g' wd' (q*R r c)->Invv (.slice A' (r+1) c'::I (B6 ((c:Int)+1))::qc wd') h'/\muv (.slice A' (r+1) c'::I (B6 ((c:Int)+1))::qc wd') h'<muv (.slice pA r pc::I (c:Int)::qc wd0) hp2):
 Mi prog (some ⟨bo,0,none⟩) n Invv muv pA r pc (c:Int) wd0.s wd0.A wd0.n wd0.c wd0.s2 wd0.A2 wd0.n2 wd0.c2 wd.s wd.A wd.n wd.c wd.s2 wd.A2 wd.n2 wd.c2 hp2 h9:=by
 unfold Mi
 obtain ⟨ch,aa,kh⟩:=t.head hr
 obtain ⟨xf,j,L,F,E,Q⟩:=t.elem hr hcw
 refine ⟨_,rfl,by omega,by omega,_,_,_,t.sep.cell kh,_,rfl,by omega,by omega,_,_,_,_,_,_,_,_,t.sep.cell L,t.sep.cell F,t.sep.cell E,t.sep.cell Q,?_⟩
 refine t.sep.call (No iq j hq (hR _ _ hr hcw) (by omega) ?_)
 intro N g3 z i4 ae G
 refine ⟨_,_,_,_,_,_,_,_,rfl,?_⟩
 refine C60 (B:=B) (t.next G z) hr hcw hn hw (j.mono z) (fun b p=>hR _ b hr p) hB ?_
 intro ac g4 o4 W t4 u
 refine C5z (B:=B) t4 hr hcw hn hw hB1 hR hB ?_
 intro ad g5 X V C m
 have H:∀ b,(∀ i,i<n->b≠rb i)->X b=o b:=fun b p=>by rw [m b p,u b p]
 have D:OwnSl X F3 pA pc (zs l):=ow.keep fun b x hA e=>by rw [H b (fun i hi e=>ap.2 i hi (by rw [<- e];exact hA))];exact e
 have d:(zs l).length=r:=by simp [hl]
 refine O6 (ty:=Fs) C3a C.sep D d.symm (y:=((c:Nat):Int)) rfl (by decide) (by rw [d];omega) (by rw [d];omega) ?_
 intro A6 c6 O Z o6 T s6 S f
 obtain ⟨⟨y0,J⟩,M⟩:=C.own
 have t6:=C.keep s6 T (fun k x e hk=>by
  rcases hk with rfl|⟨q,hq,rfl⟩
  ·exact (f _ _ e ap.1).1
  ·exact (f _ _ e (ap.2 q hq)).1)
 rw [d]
 refine fin O Z o6 A6 c6 N (B0 z (B0 W (B0 V T))) t6 (by simpa [zs] using S) ⟨(f _ _ J ap.1).2,fun q hq=>?_⟩ (i4.mono (B0 W (B0 V T)))
 obtain ⟨x,hx⟩:=M q hq
 exact (f _ _ hx (ap.2 q hq)).2
def C62(hl:l.length=r)(t:Mt h5 g o bo rb n w R)(ow:OwnSl o F3 pA pc (zs l))(ap:Xa bo rb n pA)(iq:NQ g wd0 q)(hr:r<n)(hk:k<=n)(hcw:c<w)(hn:n<=10000)(hw:w<=10000)(hB1:1<=B)(hq:Sz B q)(hR:∀ a b,a<n->b<w->Sz B (R a b))(hB:B*7<=100000000)
 (fin0:k=n->Invv (.slice pA r pc::I (B6 ((c:Int)+1))::qc ⟨false,none,0,0,false,none,0,0⟩) h5/\muv (.slice pA r pc::I (B6 ((c:Int)+1))::qc ⟨false,none,0,0,false,none,0,0⟩) h5<muv (.slice pA r pc::I (c:Int)::qc wd0) hp2)
 (fin:k<n->∀ h' g' o' rb' A' c' wd',g.le g'->Mt h' g' o' bo rb' n w (elimE (fun i=>R (xch r k i)) r c)->OwnSl o' F3 A' c' (zs (l++[c]))->Xa bo rb' n A'->NQ g' wd' ((if k=r then q else -q)*R k c)->Invv (.slice A' (r+1) c'::I (B6 ((c:Int)+1))::qc wd') h'/\muv (.slice A' (r+1) c'::I (B6 ((c:Int)+1))::qc wd') h'<muv (.slice pA r pc::I (c:Int)::qc wd0) hp2):
 Mj prog (some ⟨bo,0,none⟩) n Invv muv pA r pc (c:Int) wd0.s wd0.A wd0.n wd0.c wd0.s2 wd0.A2 wd0.n2 wd0.c2 (k:Int) hp2 h5:=by
 unfold Mj
 refine E4 (fun e=>fin0 (by omega)) (fun ah=>?_)
 have f:k<n:=by omega
 have u:∀ i,i<n->xch r k i<n:=fun i hi=>Rp hr f hi
 have xk:xch r k r=k:=Tg _ _
 refine ⟨fun L hq=>∃ (C E:aG) (d:Nat->Nat) (wd:QV),L=qc wd/\g.le C/\Mt hq C E bo d n w (fun i=>R (xch r k i))/\OwnSl E F3 pA pc (zs l)/\Xa bo d n pA/\NQ C wd (if k=r then q else -q),?_,?_⟩
 ·refine J4 (fun af=>?_) (fun ag=>?_)
  ·have z:k≠r:=by omega
   obtain ⟨c1,N,k1⟩:=t.head hr
   obtain ⟨c2,S,k2⟩:=t.head f
   refine ⟨_,rfl,by omega,by omega,_,_,_,t.sep.cell k1,_,rfl,by omega,by omega,_,_,_,t.sep.cell k2,_,rfl,by omega,by omega,?_⟩
   refine t.swap hr f A03 k1 k2 N S (fun h6 ad=>⟨_,rfl,by omega,by omega,ad (fun h7 o7 t7 M=>?_)⟩)
   refine t7.sep.call (A34 iq (fun y i3 h8 s8=>⟨_,_,_,_,_,_,_,_,rfl,?_⟩))
   refine ⟨g,o7,_,y,rfl,B4 _,t7.next s8 (B4 _),ow.keep fun b x hA e=>?_,⟨ap.1,fun i hi=>ap.2 _ (u i hi)⟩,by rw [iN z];exact i3⟩
   rw [M b (fun e=>ap.1 (by rw [<- e];exact hA))];exact e
  ·have m:k=r:=by omega
   refine ⟨g,o,rb,wd0,rfl,B4 _,t.congr (fun i j _ _=>?_),ow,ap,by rw [iP m];exact iq⟩
   rw [m];unfold xch;grind
 rintro e0 V aa Q e2 J H ac h9 ⟨C,E,d,y,F,X,t2,T,W,O⟩
 obtain ⟨rfl,_⟩:=C10 F
 have D:Sz B (if k=r then q else -q):=by
  split
  ·exact hq
  ·exact hq.neg
 refine C61 (wd:=⟨e0,V,aa,Q,e2,J,H,ac⟩) hl t2 T W O hr hcw hn hw hB1 D (fun a b ha hb=>hR _ b (u a ha) hb) hB ?_
 intro h' g' o' A' c' wd' G t' Z ae p
 rw [xk] at p
 exact fin f h' g' o' d A' c' wd' (B0 X G) t' Z ae p
end
section
variable {h:aG} {K:VP} {A:Option aJ} {n cap m w:Nat} {M:Nat->Nat->Rat}
def Xh{cols nq:Nat}(rs:RowsV h A n w M)(hn1:1<=n)(hn:n<=10000)(hw1:1<=w)(hw:w<=10000)(hc:cols<=w)(hm1:1<=m)(hs:∀ i j,i<n->j<w->Sz m (M i j))(hnq:∀ c,c<cols->(ecE M n c).cs.length<nq)(hm:7^nq*m<=100000000)
 (hK:∀ h' g' o' bo rb c' A' cap' wd,h.le g'->Mt h' g' o' bo rb n w (ecE M n cols).R->OwnSl o' F3 A' cap' (zs (ecE M n cols).cs)->Xa bo rb n A'->NQ g' wd (B45 M n cols)->
  K (.tuple #[.slice (some ⟨bo,0,none⟩) n c',.slice A' (ecE M n cols).cs.length cap',wd.v]) h'):aX prog Qx #[.slice A n cap,I (cols:Int)] h K:=by
 refine A7q _ _ _ _ ?_
 unfold A9h
 refine B0d rs (by omega) hw1 (by omega) hn1 ?_
 intro h1 g1 o1 bo af c0 ao t1
 refine ⟨_,_,_,rfl,t1.sep.call (C3h ⟨by omega,by omega⟩ ?_)⟩
 intro wd g2 l2 id h2 s2
 have one:((1:Int):Rat)=1:=rfl
 rw [one] at id
 refine ⟨_,_,_,_,_,_,_,_,rfl,fun L F=>∃ (c:Nat) (g o:aG) (rb:Nat->Nat) (A':Option aJ) (cap':Nat) (wd:QV),c<=cols/\L= .slice A' (ecE M n c).cs.length cap'::I (c:Int)::qc wd/\h.le g/\Mt F g o bo rb n w (ecE M n c).R/\OwnSl o F3 A' cap' (zs (ecE M n c).cs)/\Xa bo rb n A'/\NQ g wd (ecE M n c).det,fun L _=>cols-(iAt L 1).toNat,
  ⟨0,g2,o1,af,none,0,wd,by omega,rfl,B0 ao l2,t1.next s2 l2,(OwnSl.nil:OwnSl o1 F3 none 0 ([]:List Int)),⟨by simp,fun i hi=>by simp⟩,id⟩,?_⟩
 rintro W pn Q z d0 u q C d2 D y r F ⟨c,g,o,rb,A',cap',f,az,E,lg,t,N,ap,iq⟩
 simp only [bF,cJ,bC,true_and] at E
 obtain ⟨⟨rfl,rfl,rfl⟩,rfl,E⟩:=E
 obtain ⟨rfl,_⟩:=C10 (by simpa only [bF,cG,bC,and_true] using E:(.bool d0:cC) :: .slice u q C :: .bool d2 :: .slice D y r::[]= .bool f.s :: .slice f.A f.n f.c :: .bool f.s2 :: .slice f.A2 f.n2 f.c2::[])
 have au:=Lv M n c
 have S:∀ (he:ecE M n cols=ecE M n c),Br (decide ((((ecE M n c).cs.length:Nat):Int)<(cols:Int))) (K (.tuple #[.slice (some ⟨bo,0,none⟩) n c0,.slice W (ecE M n c).cs.length Q,.agg #[.bool false,.slice none 0 0,.bool false,.slice none 0 0]]) F)
  (K (.tuple #[.slice (some ⟨bo,0,none⟩) n c0,.slice W (ecE M n c).cs.length Q,.agg #[.bool d0,.slice u q C,.bool d2,.slice D y r]]) F):=by
  intro he
  rw [<- he] at t N iq ⊢
  refine B7 (fun T=>?_) (fun aa=>?_)
  ·have e:B45 M n cols=0:=by unfold B45;rw [iP (by omega)]
   exact hK F g o bo rb c0 W Q ⟨false,none,0,0,false,none,0,0⟩ lg t N ap (by rw [e];exact NQ.zero)
  ·have e:B45 M n cols=(ecE M n cols).det:=by unfold B45;rw [iN (by omega)]
   exact hK F g o bo rb c0 W Q ⟨d0,u,q,C,d2,D,y,r⟩ lg t N ap (by rw [e];exact iq)
 refine B7 (fun T=>?_) (fun aa=>S (by have:c=cols:=by omega
                                      rw [this]))
 have ad:c<cols:=by omega
 have V:c<w:=by omega
 refine B7 (fun G=>?_) (fun G=>S (by
  have:=B2j (n:=n) (s:=⟨M,[],1⟩) (c:=c) (by show n<=(ecE M n c).cs.length;omega) (cols-c)
  rw [show c+(cols-c)=cols by omega] at this
  exact this))
 have J:(ecE M n c).cs.length<n:=by omega
 have ar:=(SzE.run (n:=n) (w:=w) (m:=m) (s:=⟨M,[],1⟩) ⟨fun a b ha hb=>by show Sz (7^0*m) (M a b);rw [dR,aM];exact hs a b ha hb,by show Sz (7^0*m) 1;rw [dR,aM];exact Sz.int (z:=1) (ZB.one hm1) hm1,bU _⟩ hm1 c (by omega))
 have l:SzE n w m (ecE M n c):=ar
 have d:ecE M n (c+1)=Fv n c (ecE M n c):=rfl
 have ay:7^(ecE M n c).cs.length*m*7<=7^nq*m:=by
  have h1:7^(ecE M n c).cs.length*7<=7^nq:=by rw [<- dS];exact cQ (by decide) (hnq c ad)
  calc 7^(ecE M n c).cs.length*m*7=7^(ecE M n c).cs.length*7*m:=by rw [dA,aL m 7,<- dA]
   _<=7^nq*m:=aD _ h1
 have al:=A0e (ecE M n c).cs.length m hm1
 obtain ⟨r1,r2,r3,r4⟩:=Yc n c (ecE M n c) l.len
 have ac:B6 ((c:Int)+1)=((c+1:Nat):Int):=by rw [B8]<;>omega
 generalize hst:ecE M n c=st at *
 generalize hB:7^st.cs.length*m=B at *
 refine ⟨fun L Z=>L=[I ((Hq n c st:Nat):Int)]/\Z=F,⟨fun L Z=>∃ k:Nat,st.cs.length<=k/\k<=Hq n c st/\L=[I (k:Int)]/\Z=F,fun L _=>n-(iAt L 0).toNat,⟨st.cs.length,aF _,r1,rfl,rfl⟩,?_⟩,?_⟩
 ·rintro z Z ⟨k,am,ax,E,rfl⟩
  obtain rfl:=sI1 E
  refine B7 (fun T=>?_) (fun aa=>⟨by have:k=Hq n c st:=by omega
                                     rw [this],rfl⟩)
  have X:k<n:=by omega
  obtain ⟨ch,aw,H⟩:=t.head X
  obtain ⟨x,ix,x0,x1,x2,x3⟩:=t.elem X V
  refine ⟨_,rfl,by omega,by omega,_,_,_,t.sep.cell H,_,rfl,by omega,by omega,_,_,_,_,_,_,_,_,t.sep.cell x0,t.sep.cell x1,t.sep.cell x2,t.sep.cell x3,?_⟩
  refine En (ix.mono t.sep.le) ⟨_,rfl,E4 (fun e=>?_) (fun e=>?_)⟩
  ·have e0:st.R k c=0:=by rw [dL] at e;exact Rat.num_eq_zero.1 e
   have av:k<Hq n c st:=by
    by_cases hx:k<Hq n c st
    ·exact hx
    ·exfalso
     have ae:k=Hq n c st:=by omega
     exact r3 (by omega) (by rw [<- ae];exact e0)
   rw [wiS k (by omega)]
   exact ⟨⟨k+1,by omega,by omega,rfl,rfl⟩,by simp only [Bk];omega⟩
  ·have e0:st.R k c≠0:=fun h=>e (by rw [h];rfl)
   have:k=Hq n c st:=by
    by_cases hx:k<Hq n c st
    ·exact absurd (r4 k am hx) e0
    ·omega
   exact ⟨by rw [this],rfl⟩
 rintro k1 Z ⟨E,rfl⟩
 obtain rfl:k1=((Hq n c st:Nat):Int):=by simpa using E
 refine C62 (B:=B) (wd0:=⟨d0,u,q,C,d2,D,y,r⟩) rfl t N ap iq J r2 V hn hw al (by rw [<- hB];exact l.det) (fun a b ha hb=>by rw [<- hB];exact l.R a b ha hb) (by omega) (fun a0=>?_) (fun an=>?_)
 ·have p:Fv n c st={ st with det:=0 }:=by unfold Fv;rw [iP J,iN (by omega)]
  rw [ac]
  refine ⟨⟨c+1,g,o,rb,W,Q,⟨false,none,0,0,false,none,0,0⟩,by omega,?_,lg,?_⟩,?_⟩
  ·rw [d,p]
  ·rw [d,p];exact ⟨t,N,ap,NQ.zero⟩
  ·show cols-((c+1:Nat):Int).toNat<cols-((c:Nat):Int).toNat
   omega
 ·intro h' g' o' ag A6 c6 aq ak t' ah ai aj
  have p:Fv n c st={ R:=elimE (fun i=>st.R (xch st.cs.length (Hq n c st) i)) st.cs.length c,cs:=st.cs++[c],det:=(if Hq n c st=st.cs.length then st.det else-st.det)*st.R (Hq n c st) c }:=by unfold Fv;rw [iP J,iP an]
  have O:(st.cs++[c]).length=st.cs.length+1:=by simp
  rw [ac]
  refine ⟨⟨c+1,g',o',ag,A6,c6,aq,by omega,?_,B0 lg ak,?_⟩,?_⟩
  ·rw [d,p,O]
  ·rw [d,p];exact ⟨t',ah,ai,aj⟩
  ·show cols-((c+1:Nat):Int).toNat<cols-((c:Nat):Int).toNat
   omega
end
section
variable {h:aG} {K:VP} {A B:Option aJ} {n m a b:Nat} {r c r2 c2:Int} {ls ls2:Nat->List UInt8}
def C2f{xs:List Int}(s:SlF h A xs){i:Nat}(hi:i<xs.length):∃ x,A=some x/\h.cell? (aE x (i*1))=some (I xs[i]):=by
 obtain ⟨x,e,a⟩:=SlF.at (by decide) s hi
 have:=a 0 _ rfl
 rw [Iz] at this
 exact ⟨x,e,this⟩
structure Small (r c:Int) (n:Nat) (ls:Nat->List UInt8) (k d:Int):Prop where
 hr:r<=k
 hc:c<=k
 hn:(n:Int)<=k*k+2
 hl:∀ i,i<n->((ls i).length:Int)<=d
end
section
variable {h:aG} {K:VP} {A B:Option aJ} {n cap m:Nat} {r c:Int} {ls:Nat->List UInt8}
def Yn{E:Nat->Rat}{rows cols:Nat}(hs:∀ i,i<rows*cols->Sz m (E i)):∀ i j,i<rows->j<cols->Sz m (mtx E cols i j):=fun _ _ a b=>hs _ (Bj a b)
def C1k{M:Nat->Nat->Rat}{n w c nq:Nat}(hs:∀ i j,i<n->j<w->Sz m (M i j))(hm:1<=m)(hc:c<=w)(hnq:(ecE M n c).cs.length<=nq){b:Nat}(hb:7^nq*m<=b):(∀ i j,i<n->j<w->Sz b ((ecE M n c).R i j))/\Sz b (ecE M n c).det:=by
 have z:SzE n w m ⟨M,[],1⟩:=⟨fun i j a d=>by simpa using hs i j a d,by simpa using (⟨ZB.one hm,ZB.one hm⟩:Sz m 1),bU _⟩
 have y:=z.run hm c hc
 have e:7^(ecE M n c).cs.length*m<=7^nq*m:=aD _ (cQ (by decide) hnq)
 exact ⟨fun i j a d=>(y.R i j a d).mono (by show 7^(ecE M n c).cs.length*m<=b;omega),y.det.mono (by show 7^(ecE M n c).cs.length*m<=b;omega)⟩
end
def C1d(cs:List Nat){i:Nat}(hi:i<cs.length):(zs cs)[i]'(by rw [dI];exact hi)=((cs.getD i 0:Nat):Int):=by
 rw [List.getElem_map,aR,aI hi];rfl
def B99{h:aG}{A:Option aJ}{cs:List Nat}(s:SlF h A (zs cs)){i:Nat}(hi:i<cs.length):∃ x,A=some x/\h.cell? (aE x (i*1))=some (I ((cs.getD i 0:Nat):Int)):=by
 obtain ⟨x,e,a⟩:=C2f s (i:=i) (by rw [dI];exact hi)
 rw [C1d cs hi] at a
 exact ⟨x,e,a⟩
def B3h{cs:List Nat}{c:Nat}(h:Asc cs c){i:Nat}(hi:i<cs.length):cs.getD i 0<c:=by
 rw [aR,aI hi];exact h.lt _ (List.getElem_mem hi)
section
variable {h:aG} {K:VP} {A:Option aJ} {n cap m w:Nat} {r c:Int} {ls:Nat->List UInt8} {M:Nat->Nat->Rat}
end
section
variable {α β:Type} {R:aG->α->β->Prop} {g:aG}
def Row.app{xs ys:List α}{f:Nat->β}{p q:Nat}(hp:xs.length=p)(r:Row R g xs p f)(r2:Row R g ys q (fun j=>f (p+j))):Row R g (xs++ys) (p+q) f:=fun i b=>by
 by_cases h:i<p
 ·obtain ⟨w,e,x⟩:=r i h
  exact ⟨w,by rw [aW (by omega)];exact e,x⟩
 ·obtain ⟨w,e,x⟩:=r2 (i-p) (by omega)
  refine ⟨w,by rw [bJ (by omega),hp];exact e,?_⟩
  have a:p+(i-p)=i:=by omega
  show R g w (f i)
  rw [<- a];exact x
end
section
variable {h:aG} {K:VP} {A:Option aJ} {n cap m:Nat} {r c:Int} {ls:Nat->List UInt8}
def A5o{z:Int}(hz: -9223372036854775808<=z/\z<=9223372036854775807)(hK:∀ w h',h.le h'->RQ h' w (z:Rat)->K w.v h'):aX prog A0u #[I z] h K:=by
 refine B57 _ ?_
 unfold B9y
 exact Eg hz.1 hz.2 fun a A1 b c1 h' l i=>⟨_,_,_,_,rfl,hK _ h' l (A87 i)⟩
end
def H0(E b:Nat->Rat)(cols:Nat):Nat->Rat:=fun k=>if k%(cols+1)<cols then E (k/(cols+1)*cols+k%(cols+1)) else b (k/(cols+1))
def dm1{i j c:Nat}(hj:j<c):(i*c+j)/c=i/\(i*c+j)%c=j:=by
 rw [cO,bI,cH hj,bZ _ _ (by omega),bH hj,aN]
 exact ⟨rfl,rfl⟩
def Hw(E b:Nat->Rat){cols i j:Nat}(hj:j<cols):mtx (H0 E b cols) (cols+1) i j=mtx E cols i j:=by
 obtain ⟨a,c⟩:=dm1 (i:=i) (show j<cols+1 by omega)
 show H0 E b cols (i*(cols+1)+j)=_
 unfold H0
 rw [a,c,iP hj]
 rfl
def Pv(E b:Nat->Rat)(cols i:Nat):mtx (H0 E b cols) (cols+1) i cols=b i:=by
 obtain ⟨a,c⟩:=dm1 (i:=i) (show cols<cols+1 by omega)
 show H0 E b cols (i*(cols+1)+cols)=_
 unfold H0
 rw [a,c,iN (aS cols)]
def A7w{E b:Nat->Rat}{rows cols m:Nat}(hs:∀ i,i<rows*cols->Sz m (E i))(hb:∀ i,i<rows->Sz m (b i)):∀ i,i<rows*(cols+1)->Sz m (H0 E b cols i):=by
 intro i c
 have a:i/(cols+1)<rows:=cF (by rw [aL];exact c)
 unfold H0
 by_cases e:i%(cols+1)<cols
 ·rw [iP e];exact hs _ (Bj a e)
 ·rw [iN e];exact hb _ a
abbrev Nk(E b:Nat->Rat)(rows cols:Nat):ES:=elE (H0 E b cols) rows (cols+1) cols
def Ha(E b:Nat->Rat)(rows cols:Nat):Prop:=∀ i,i<rows->(Nk E b rows cols).cs.length<=i->(Nk E b rows cols).R i cols=0
def A2x(E b:Nat->Rat)(rows cols:Nat):Nat->Rat:=C0x (fun _=>0) (fun m=>(Nk E b rows cols).R m cols) 0 (Nk E b rows cols).cs
def B1d(f:Nat->Rat)(cs:List Nat):Nat->Nat->Rat
 | 0=>fun _=>0
 | k+1=>fun j=>if j=cs.getD k 0 then f k else B1d f cs k j
def B2r(f:Nat->Rat)(cs:List Nat):∀ k,k<=cs.length->C0x (B1d f cs k) f k (cs.drop k)=C0x (fun _=>0) f 0 cs:=by
 intro k
 induction k with
 | zero=>intro _;rfl
 | succ k ih=>
  intro a
  rw [<- ih (by omega),List.drop_eq_getElem_cons (show k<cs.length by omega)]
  have e:cs.getD k 0=cs[k]:=by rw [aR,aI (by omega)];rfl
  show C0x (B1d f cs (k+1)) f (k+1) (cs.drop (k+1))=C0x (fun j=>if j=cs[k] then f k else B1d f cs k j) f (k+1) (cs.drop (k+1))
  rw [<- e]
  rfl
def A0d(f:Nat->Rat)(cs:List Nat):B1d f cs cs.length=C0x (fun _=>0) f 0 cs:=by
 have:=B2r f cs cs.length (aF _)
 rw [List.drop_length] at this
 exact this
def B2b(E b:Nat->Rat)(rows cols:Nat):EqA rows (cols+1) cols (mtx (H0 E b cols) (cols+1)) (Nk E b rows cols):=EqA.run _ cols (by omega)
def C3e{E b:Nat->Rat}{rows cols:Nat}(x:Nat->Rat)(h:∀ i,i<rows->sm cols (fun j=>mtx E cols i j*x j)=b i):Ha E b rows cols:=by
 intro i c f
 obtain ⟨T,d⟩:=(B2b E b rows cols).comb
 rw [d i cols c (by omega)]
 have e:∀ j,j<cols->sm rows (fun l=>T i l*mtx E cols l j)=0:=by
  intro j a
  rw [D6 (g:=fun l=>T i l*mtx (H0 E b cols) (cols+1) l j) fun l _=>by rw [Hw E b a],<- d i j c (by omega)]
  exact (B2b E b rows cols).zero i j c f a
 rw [D6 (g:=fun l=>sm cols fun j=>T i l*mtx E cols l j*x j) fun l k=>by
  rw [Pv,<- h l k,<- He]
  exact D6 fun j _=>(dM _ _ _).symm]
 rw [A5u]
 refine Fx fun j a=>?_
 rw [D6 (g:=fun l=>x j*(T i l*mtx E cols l j)) fun l _=>aU _ _,He,e j a,aY]
def B6x{E b:Nat->Rat}{rows cols:Nat}(h:¬ Ha E b rows cols):∃ y:Nat->Rat,(∀ j,j<cols->sm rows (fun l=>y l*mtx E cols l j)=0)/\sm rows (fun l=>y l*b l)=1:=by
 have:∃ i,i<rows/\(Nk E b rows cols).cs.length<=i/\(Nk E b rows cols).R i cols≠0:=by
  refine bK fun f=>h fun i c d=>bK fun a=>f ⟨i,c,d,a⟩
 obtain ⟨i,c,d,a⟩:=this
 obtain ⟨y,k,g⟩:=(B2b E b rows cols).none c d a
 refine ⟨y,fun j e=>?_,?_⟩
 ·rw [<- k j e]
  exact D6 fun l _=>by rw [Hw E b e]
 ·rw [<- g]
  exact D6 fun l _=>by rw [Pv]
def A2a(E b:Nat->Rat)(rows cols:Nat):Nat->Rat:=fun k=>if k<cols*rows then E (k%rows*cols+k/rows) else b (k-cols*rows)
def B2o(cols:Nat):Nat->Rat:=fun i=>if i=cols then 1 else 0
def A89(E b:Nat->Rat){rows cols i j:Nat}(hi:i<cols)(hj:j<rows):mtx (A2a E b rows cols) rows i j=mtx E cols j i:=by
 obtain ⟨a,c⟩:=dm1 (i:=i) hj
 show A2a E b rows cols (i*rows+j)=_
 unfold A2a
 rw [iP (Bj hi hj),a,c]
 rfl
def A38(E b:Nat->Rat){rows cols j:Nat}:mtx (A2a E b rows cols) rows cols j=b j:=by
 show A2a E b rows cols (cols*rows+j)=_
 unfold A2a
 rw [iN (by omega),cM]
def C3g{E b:Nat->Rat}{rows cols:Nat}(h:¬ Ha E b rows cols):Ha (A2a E b rows cols) (B2o cols) (cols+1) rows:=by
 obtain ⟨y,c,d⟩:=B6x h
 refine C3e y fun i f=>?_
 unfold B2o
 by_cases e:i=cols
 ·subst e
  rw [iP rfl,<- d]
  exact D6 fun j _=>by rw [A38,aU]
 ·rw [iN e,<- c i (by omega)]
  exact D6 fun j a=>by rw [A89 E b (by omega) a,aU]
def C0t{E b:Nat->Rat}{rows cols m B:Nat}(hB:1<=B)(hs:∀ i j,i<rows->j<cols+1->Sz B ((Nk E b rows cols).R i j))(j:Nat):Sz B (A2x E b rows cols j):=by
 have c:(Nk E b rows cols).cs.length<=rows:=(Lv (mtx (H0 E b cols) (cols+1)) rows cols).2
 unfold A2x
 rw [<- A0d]
 have:∀ k,k<=(Nk E b rows cols).cs.length->Sz B (B1d (fun m=>(Nk E b rows cols).R m cols) (Nk E b rows cols).cs k j):=by
  intro k
  induction k with
  | zero=>intro _;exact Sz.zero hB
  | succ k ih=>
   intro a
   show Sz B (if j=_ then _ else _)
   split
   ·exact hs k cols (by omega) (by omega)
   ·exact ih (by omega)
 exact this _ (aF _)
def B6y(E b:Nat->Rat)(rows cols:Nat):fnd (fun i=>decide ((elP (H0 E b cols) rows (cols+1) cols).M i cols≠0)) (rows-(Nk E b rows cols).cs.length) (Nk E b rows cols).cs.length=rows↔Ha E b rows cols:=by
 have rel:=B43 (H0 E b cols) (rows:=rows) (cols:=cols+1) (c:=cols) (by omega)
 have q:(Nk E b rows cols).cs.length<=rows:=(Lv (mtx (H0 E b cols) (cols+1)) rows cols).2
 have n:∀ i,i<rows->(Nk E b rows cols).cs.length<=i->((elP (H0 E b cols) rows (cols+1) cols).M i cols=0↔(Nk E b rows cols).R i cols=0):=by
  intro i f k
  have a:=rel.val i cols f (by omega)
  rw [iN (by have:(elE (H0 E b cols) rows (cols+1) cols).cs.length<=i:=k;omega)] at a
  have g:=X6 rel.last
  have r:=rel.scale i f
  constructor
  ·intro e
   rw [e] at a
   have p:((0:Int):Rat)=0:=rfl
   rw [p] at a
   rcases Rat.mul_eq_zero.1 a.symm with m|m
   ·exact absurd m g
   ·rcases Rat.mul_eq_zero.1 m with l|l
    ·exact absurd l r
    ·exact l
  ·intro e
   have o:(elE (H0 E b cols) rows (cols+1) cols).R i cols=0:=e
   rw [o,aY,aY] at a
   exact_mod_cast a
 have d:=Tk (fun i=>decide ((elP (H0 E b cols) rows (cols+1) cols).M i cols≠0)) (rows-(Nk E b rows cols).cs.length) (Nk E b rows cols).cs.length
 constructor
 ·intro e i f k
  have:=d i k (by omega)
  exact (n i f k).1 (by simpa using this)
 ·intro h
  refine B3k _ q (by omega) (fun j a g=>?_) (fun s=>by omega)
  simpa using (n j g a).2 (h j g a)
section
variable {h:aG} {K:VP} {A B:Option aJ} {n n2 cap cap2 m rows cols nb:Nat} {E b:Nat->Rat}
def Nw{nq:Nat}(gl:Gl h)(ra:bG RQr h A (rows*cols) E)(hcap:rows*cols<=cap)(rb:bG RQr h B nb b)(hnb:rows<=nb)(hr:1<=rows)(hr2:rows<=1000)(hc:1<=cols)(hc2:cols<=1000)(hs:∀ i,i<rows*cols->Sz m (E i))(hsb:∀ i,i<rows->Sz m (b i))(hnq:∀ j,j<=cols->(elE (H0 E b cols) rows (cols+1) j).cs.length<=nq)(hm:2*(3^nq*bnd (cols+1) m)+1<=40000000)
 (hK1:Ha E b rows cols->∀ b' h',h.le h'->bG RQr h' (some ⟨b',0,none⟩) cols (A2x E b rows cols)->K (.tuple #[.slice (some ⟨b',0,none⟩) cols cols,.bool true]) h')
 (hK0:¬ Ha E b rows cols->∀ h',h.le h'->K (.tuple #[.slice none 0 0,.bool false]) h'):aX prog Oo #[.slice A (rows*cols) cap,I (rows:Int),I (cols:Int),.slice B nb cap2] h K:=by
 refine B17 _ _ _ _ _ _ _ _ ?_
 unfold B5z
 have a2:rows*cols<=1000*1000:=bB hr2 hc2
 have a8:rows*(cols+1)<=1000*1001:=bB hr2 (by omega)
 refine ⟨fun L hp=>∃ (k:Nat) (g o:aG) (xs:List QV) (A':Option aJ) (c':Nat),k<=rows/\L=[.slice A' (k*(cols+1)) c',I (k:Int)]/\h.le g/\Sep hp g o/\OwnSl o K6 A' c' xs/\xs.length=k*(cols+1)/\Row RQr g xs (k*(cols+1)) (H0 E b cols),fun L _=>rows-(iAt L 1).toNat,
  ⟨0,h,Bh,[],none,0,by omega,by rw [bM];rfl,B4 _,Sep.refl h,OwnSl.nil,by simp,by rw [bM];exact Row.nil⟩,?_⟩
 rintro wA wn wc z hp ⟨k,g,o,xs,A',c',hk,eL,lg,s,ow,d,rr⟩
 obtain ⟨⟨rfl,rfl,rfl⟩,rfl⟩:=sI2 eL
 refine B7 (fun Q=>?_) (fun aw=>?_)
 ·have x:k<rows:=by omega
  have h2:(k+1)*cols<=rows*cols:=aD _ x
  have t:(k+1)*cols=k*cols+cols:=by rw [aK,aM]
  have h4:(k+1)*(cols+1)=k*(cols+1)+cols+1:=by rw [aK,aM];omega
  have h5:(k+1)*(cols+1)<=rows*(cols+1):=aD _ x
  have e0:B6 ((k:Int)+1)=((k+1:Nat):Int):=B8 (by omega) (by omega)
  have e1:B6 ((k:Int)*(cols:Int))=((k*cols:Nat):Int):=by rw [<- aV];exact Z2 (by omega)
  have e2:B6 (B6 ((k:Int)+1)*(cols:Int))=(((k+1)*cols:Nat):Int):=by rw [e0,<- aV];exact Z2 (by omega)
  rw [e1,e2,e0]
  refine ⟨⟨by omega,by omega⟩,⟨by omega,by simp only [aH];omega⟩,?_⟩
  simp only [aH]
  have e5:(k+1)*cols-k*cols=cols:=by omega
  rw [e5]
  have row:bG RQr h (K5 A cap (k*cols) 4) cols (fun j=>E (k*cols+j)):=ra.cut (c:=cap) (l:=k*cols) (k:=cols) (by omega) hcap
  obtain ⟨r,sy,p,qy⟩:=row
  refine OwnSl.app (ty:=U6) B25 s ow d.symm p.symm (by rintro rfl;simp at p;omega) (sy.mono (B0 lg s.le)) (by rw [d,p];omega) (by rw [d,p];omega) ?_
  intro A2 c2 a9 g2 o2 l2 s2 ay _
  have V:=B0 lg l2
  obtain ⟨a6,u,am,iu,d0,d1,d2,d3⟩:=(rb.mono K9 V).qat (i:=k) (by omega)
  refine ⟨_,_,_,rfl,a6,am,by omega,by omega,_,_,_,_,_,_,_,_,B5 s2.le d0,B5 s2.le d1,B5 s2.le d2,B5 s2.le d3,?_⟩
  have a:(xs++r).length=k*(cols+1)+cols:=by rw [aC,d,p]
  rw [d]
  refine O6 (ty:=U6) B25 s2 ay a.symm (y:=u) rfl (by decide) (by rw [a];omega) (by rw [a];omega) ?_
  intro A3 c3 a4 g3 o3 l3 s3 n _
  rw [a]
  have r1:Row RQr g2 (xs++r) (k*(cols+1)+cols) (H0 E b cols):=by
   refine Row.app d (rr.mono K9 l2) ((qy.mono K9 V).congr fun j hj=>?_)
   obtain ⟨f1,f2⟩:=dm1 (i:=k) (show j<cols+1 by omega)
   unfold H0
   rw [f1,f2,iP hj]
  refine ⟨⟨k+1,g3,o3,_,A3,c3,by omega,by rw [h4],B0 V l3,s3,n,by rw [aC,a,h4];rfl,?_⟩,?_⟩
  ·have rB:=Row.push (R:=RQr) (g:=g3) (xs:=xs++r) (f:=H0 E b cols) (by rw [a];exact r1.mono K9 l3) (w:=u) (by
    obtain ⟨f1,f2⟩:=dm1 (i:=k) (show cols<cols+1 by omega)
    show RQ g3 u (H0 E b cols (xs++r).length)
    unfold H0
    rw [a,f1,f2,iN (aS cols)]
    exact K9 _ _ _ _ l3 iu)
   rw [aC,a] at rB
   rw [h4]
   exact rB
  ·show rows-((k+1:Nat):Int).toNat<rows-(k:Int).toNat
   omega
 have x:k=rows:=by omega
 subst x
 have ew:B6 ((cols:Int)+1)=((cols+1:Nat):Int):=B8 (by omega) (by omega)
 rw [ew]
 have ai:=B0 lg s.le
 have rq:bG RQr hp wA (k*(cols+1)) (H0 E b cols):=⟨xs,ow.slF s.ole,d,rr.mono K9 s.le⟩
 have ae:=A7w (cols:=cols) hs hsb
 have a5:=A0f nq (bnd (cols+1) m) (by unfold bnd;omega)
 refine A2s (nq:=nq) (E:=H0 E b cols) (cc:=cols) (m:=m) (gl.mono ai) rq (by have:=ow.1;omega) (by omega) (by omega) (by omega) (by omega) (by omega) ae (fun j hj=>by rw [C1j _ (by omega)];exact hnq j hj) (by omega) ?_
 intro T h2 C l2 e1 e2
 refine ⟨_,rfl,FCall.mono C ?_⟩
 rintro r3 t ⟨g3,o3,A3,a0,w,l3,W,n,ar,ad,rfl⟩
 refine ⟨_,_,_,_,_,_,_,_,rfl,?_⟩
 have N:=C3x (E:=H0 E b cols) (rows:=k) (cols:=cols+1) (c:=cols) ae (by omega)
 have ap:3^(elP (H0 E b cols) k (cols+1) cols).cs.length*bnd (cols+1) m<=3^nq*bnd (cols+1) m:=aD _ (cQ (by decide) (by rw [C1j _ (by omega)];exact hnq cols (aF _)))
 have au:=C1i (H0 E b cols) k (cols+1) cols
 have F:∀ i,i<(Nk E b k cols).cs.length->i<k->cD ((elP (H0 E b cols) k (cols+1) cols).M i cols) (elP (H0 E b cols) k (cols+1) cols).last=(Nk E b k cols).R i cols:=fun i h1 hi=>C3z (H0 E b cols) (by omega) hi (by omega) (.inl h1)
 have aj:Asc (Nk E b k cols).cs cols:=A85 k ⟨_,[],1⟩ rfl cols
 have D:(Nk E b k cols).cs.length<=cols/\(Nk E b k cols).cs.length<=k:=Lv _ k cols
 have e:=B6y E b k cols
 have eX:A2x E b k cols=B1d (fun m=>(Nk E b k cols).R m cols) (Nk E b k cols).cs (Nk E b k cols).cs.length:=(A0d _ _).symm
 rw [C1j _ (by omega)] at n ⊢
 change (elE (H0 E b cols) k (cols+1) cols).cs.length<=cols/\_ at D
 rw [eX] at hK1
 clear eX
 unfold Nk at hK1 e F aj D
 generalize elP (H0 E b cols) k (cols+1) cols=st at *
 generalize (elE (H0 E b cols) k (cols+1) cols).cs=cs at *
 generalize (elE (H0 E b cols) k (cols+1) cols).R=R at *
 have aa:=N.M
 have ac:=N.last
 clear N
 generalize 3^st.cs.length*bnd (cols+1) m=bb at aa ac ap
 have sp:=n.slF W.sep.ole
 have J:h.le t:=B0 ai (B0 l3 W.sep.le)
 have iw:ZIr t w st.last:=Kk _ _ _ _ W.sep.le ad
 have af:T.rows=k:=e1
 refine A3x W (start:=cs.length) (col:=cols) (by omega) (by omega) (fun Q=>⟨_,_,rfl,hK0 (fun hx=>by rw [af] at Q;have:=e.2 hx;omega) t J⟩) (fun ah=>⟨_,_,rfl,?_⟩)
 have av:=hK1 (e.1 (by rw [af] at ah;exact ah))
 have H:∀ O,t.le O->∃ gT,Tab O gT o3 T st.M st.S:=fun O l=>by
  obtain ⟨gT,l',s'⟩:=W.sep.after l
  exact ⟨gT,W.next s' l'⟩
 clear W n ar ad C hK1 hK0
 refine L8 B25 (zx:=Ao) rfl (by omega) (by omega) (by omega) (by omega) ?_
 intro b2 aq
 simp only [aH]
 refine ⟨_,_,_,rfl,?_⟩
 have s5:=(Sep.refl t).new aq (.cells ((aO cols Ao).flatMap enc).toArray K6)
 have r0:Row RQr t (aO cols Ao) cols (B1d (fun m=>R m cols) cs 0):=fun i hi=>⟨Ao,by rw [cX,iP hi],RQ.zero⟩
 refine ⟨fun L q=>∃ (i:Nat) (O o':aG) (r:List QV),i<=cs.length/\L=[I (i:Int)]/\t.le O/\Sep q O o'/\RowX o' b2 r/\r.length=cols/\Row RQr O r cols (B1d (fun m=>R m cols) cs i),fun L _=>cs.length-(iAt L 0).toNat,⟨0,t,_,_,by omega,rfl,B4 _,s5,RowX.mk,aP,r0⟩,?_⟩
 rintro z q ⟨i,g6,o6,r,hi,eL,X,Z,ag,hy,ak⟩
 obtain rfl:=sI1 eL
 refine B7 (fun Q=>?_) (fun aw=>?_)
 ·have G:i<cs.length:=by omega
  obtain ⟨u,eu,ao⟩:=B99 (sp.mono (B0 X Z.le)) G
  have a1:=B3h aj G
  obtain ⟨gT,tT⟩:=H g6 X
  refine ⟨u,eu,by omega,by omega,_,ao,?_⟩
  refine Z.call (Ga tT (i:=i) (by omega) ?_)
  intro h7 s7
  obtain ⟨wv,zv,c0,c1⟩:=tT.at (i:=i) (j:=cols) (by omega) (by omega)
  refine ⟨_,_,_,rfl,Z.le_le s7 (B4 _),_,rfl,by omega,by omega,_,_,_,_,B5 s7.le c0,B5 s7.le c1,?_⟩
  refine s7.call (Bs (gl.mono (B0 J X)).tz (Kk _ _ _ _ tT.sep.le zv) (Kk _ _ _ _ X iw) (aa _ _ (by omega) (by omega)) ac (by omega) ?_)
  intro w9 g9 l9 i9 h9 s9
  rw [F i G (by omega)] at i9
  refine ⟨_,_,_,_,_,_,_,_,rfl,s7.le_le s9 l9,_,rfl,by omega,by omega,?_⟩
  refine S0 Ti (y:=w9) rfl s9 ag (i:=cs.getD i 0) (by omega) ?_
  intro a7 an a3 az ax al
  rw [wiS i (by omega)]
  exact ⟨⟨i+1,g9,an,_,by omega,rfl,B0 X l9,ax,al,by rw [cK];exact hy,(ak.mono K9 l9).upd (by omega) i9⟩,by simp only [Bk];omega⟩
 ·have:i=cs.length:=by omega
  subst this
  exact av b2 q (B0 J (B0 X Z.le)) ⟨r,ag.rowB.slF Z.ole,hy,ak.mono K9 Z.le⟩
end
section
variable {h:aG} {K:VP} {A:Option aJ} {n cap m w:Nat} {r c:Int} {ls:Nat->List UInt8} {R:Nat->Nat->Rat}
def Lj(hn:n<=10000)(hw:w<=10000)
 (hK:∀ h' g' o' bo rb,h.le g'->Mt h' g' o' bo rb n w (fun _ _=>0)->K (.slice (some ⟨bo,0,none⟩) n n) h'):aX prog Ot #[I (n:Int),I (w:Int)] h K:=by
 refine B67 _ _ ?_
 unfold C0g
 refine L8 C5h (zx:=(⟨none,0,0⟩:HV)) rfl (by omega) (by omega) (by omega) (by omega) ?_
 intro bo F
 simp only [aH]
 refine ⟨_,_,_,rfl,fun L C=>∃ (k:Nat) (g o:aG) (l:List HV) (rb:Nat->Nat),k<=n/\L=[I (k:Int)]/\h.le g/\Sep C g o/\RowX o bo l/\l.length=n/\(∀ i,i<k->l[i]? = some ⟨some ⟨rb i,0,none⟩,w,w⟩)/\(∀ i,i<k->rb i≠bo)/\(∀ i j,i<k->j<k->rb i=rb j->i=j)/\(∀ i,i<k->RowX o (rb i) (aO w Ao)),fun L _=>n-(iAt L 0).toNat,
  ⟨0,h,Bh.put bo _,aO n ⟨none,0,0⟩,fun _=>0,by omega,rfl,B4 _,Y9 F,RowX.mk,aP,fun i a=>by omega,fun i a=>by omega,fun i j a=>by omega,fun i a=>by omega⟩,?_⟩
 rintro z C ⟨k,g,o,l,rb,W,Q,H,s,B,J,G,u,N,E⟩
 obtain rfl:=sI1 Q
 refine B7 (fun T=>?_) (fun R=>?_)
 ·have S:k<n:=by omega
  refine L8 Ng (zx:=Ao) rfl (by omega) (by omega) (by omega) (by omega) ?_
  intro b c
  simp only [aH]
  have p:∀ q x,o q=some x->q≠b:=by
   rintro q x e rfl
   rw [s.own q x e] at c;cases c
  have d:bo≠b:=by obtain ⟨e,D⟩:=B;exact p _ _ D
  have f:∀ i,i<k->rb i≠b:=fun i a=>by obtain ⟨e,D⟩:=E i a;exact p _ _ D
  refine ⟨_,_,_,rfl,_,rfl,by omega,by omega,?_⟩
  refine S0 A03 (y:=(⟨some ⟨b,0,none⟩,w,w⟩:HV)) rfl (s.new c _) (B.other d _) (i:=k) (by omega) ?_
  intro X O Z m V t
  rw [wiS k (by omega)]
  refine ⟨⟨k+1,g,O,_,fun i=>if i=k then b else rb i,by omega,rfl,H,V,t,by rw [cK];exact J,fun i a=>?_,fun i a=>?_,fun i j a M e=>?_,fun i a=>?_⟩,by simp only [Bk];omega⟩
  ·show (l.set k _)[i]? = some (⟨some ⟨if i=k then b else rb i,0,none⟩,w,w⟩:HV)
   by_cases e:i=k
   ·subst e
    rw [iP rfl,bX (by omega)]
   ·rw [iN e,bN (fun x=>e x.symm)]
    exact G i (by omega)
  ·show (if i=k then b else rb i)≠bo
   by_cases e:i=k
   ·rw [iP e];exact d.symm
   ·rw [iN e];exact u i (by omega)
  ·change (if i=k then b else rb i)=(if j=k then b else rb j) at e
   by_cases A:i=k
   ·by_cases r:j=k
    ·omega
    ·rw [iP A,iN r] at e
     exact absurd e.symm (f j (by omega))
   ·by_cases r:j=k
    ·rw [iN A,iP r] at e
     exact absurd e (f i (by omega))
    ·rw [iN A,iN r] at e
     exact N i j (by omega) (by omega) e
  ·show RowX O (if i=k then b else rb i) _
   by_cases e:i=k
   ·rw [iP e,m]
    exact RowX.mk.other d.symm _
   ·rw [iN e,m]
    exact ((E i (by omega)).other (f i (by omega)) _).other (u i (by omega)) _
 ·have:k=n:=by omega
  subst this
  refine hK C g o bo rb H ⟨s,⟨l,B.rowB,J,fun i a=>⟨w,G i a,aF _⟩⟩,u,N,fun i a=>⟨_,(E i a).rowB,aP,fun j M=>⟨Ao,by rw [cX,iP M],NQ.zero⟩⟩⟩
def A9m(R:Nat->Nat->Rat)(i k:Nat):Nat->Nat->Rat:=fun a b=>if b<i\/(b=i/\a<k) then R b a else 0
def A6h(rs:RowsV h A n w R)(hn1:1<=n)(hn:n<=10000)(hw:w<=10000)
 (hK:∀ h' g' o' bo rb,h.le g'->Mt h' g' o' bo rb w n (fun a b=>R b a)->K (.slice (some ⟨bo,0,none⟩) w w) h'):aX prog A6s #[.slice A n cap] h K:=by
 refine B8y _ _ _ ?_
 unfold C4z
 obtain ⟨a,sv,V,X,e2,T,_⟩:=rs.at (i:=0) (by omega)
 refine ⟨a,V,by omega,by omega,_,_,_,T,?_⟩
 rw [X]
 refine Lj hw hn ?_
 intro h1 S F bo rb l1 t1
 refine ⟨_,_,_,rfl,fun L p=>∃ (i:Nat) (g o:aG),i<=n/\L=[I (i:Int)]/\h.le g/\Mt p g o bo rb w n (A9m R i 0),fun L _=>n-(iAt L 0).toNat,⟨0,S,F,by omega,rfl,l1,t1.congr fun a b _ _=>by unfold A9m;rw [iN (by omega)]⟩,?_⟩
 rintro z p ⟨i,g,o,hi,G,x,t⟩
 obtain rfl:=sI1 G
 refine B7 (fun ac=>?_) (fun H=>?_)
 ·have j:i<n:=by omega
  obtain ⟨y,s1,r,f1,f2,l,row⟩:=rs.at j
  refine ⟨fun L p=>∃ (k:Nat) (g o:aG),k<=w/\L=[I (k:Int)]/\h.le g/\Mt p g o bo rb w n (A9m R i k),fun L _=>w-(iAt L 0).toNat,⟨0,g,o,by omega,rfl,x,t⟩,?_⟩
  rintro z Z ⟨k,D,E,hk,s,d,c⟩
  obtain rfl:=sI1 s
  have q:=B0 d c.sep.le
  refine ⟨y,r,by omega,by omega,_,_,_,B5 q l,?_⟩
  rw [f1]
  refine B7 (fun C=>?_) (fun B=>?_)
  ·have f:k<w:=by omega
   obtain ⟨cc,aa,W⟩:=c.head f
   obtain ⟨Q,w5,O,N,c0,c1,u,c3⟩:=(row.mono I9 d).qat f
   refine ⟨_,rfl,by omega,by omega,_,_,_,c.sep.cell W,y,r,by omega,by omega,_,_,_,B5 q l,Q,O,by omega,by omega,_,_,_,_,_,_,_,_,B5 c.sep.le c0,B5 c.sep.le c1,B5 c.sep.le u,B5 c.sep.le c3,_,rfl,by omega,by omega,?_⟩
   refine c.store f j N ?_
   intro h6 M t6 _
   rw [wiS k (by omega)]
   refine ⟨⟨k+1,D,M,by omega,rfl,d,t6.congr fun a b _ _=>?_⟩,by simp only [Bk];omega⟩
   unfold B6l A9m
   by_cases e:a=k/\b=i
   ·rw [iP e,iP (by omega),e.1,e.2]
   ·rw [iN e]
    by_cases m:b<i\/(b=i/\a<k)
    ·rw [iP m,iP (by omega)]
    ·rw [iN m,iN (by omega)]
  ·have:k=w:=by omega
   subst this
   rw [wiS i (by omega)]
   refine ⟨⟨i+1,D,E,by omega,rfl,d,c.congr fun a b ha _=>?_⟩,by simp only [Bk];omega⟩
   unfold A9m
   by_cases m:b<i\/(b=i/\a<k)
   ·rw [iP m,iP (by omega)]
   ·rw [iN m,iN (by omega)]
 ·have:i=n:=by omega
  subst this
  exact hK p g o bo rb x (t.congr fun a b _ J=>by unfold A9m;rw [iP (.inl J)])
def Kg{α:Type}[E:Enc α]{o:aG}{b:Nat}{e:bY}{c:Nat}{zx:α}:OwnSl (o.put b (.cells ((aO c zx).flatMap enc).toArray e)) e (some ⟨b,0,none⟩) c ([]:List α):=
 ⟨bU _,.inr ⟨b,_,rfl,C0 _ _ _,by rw [H9,aP],by simp⟩⟩
def A3f{rows cols:Nat}(rv':bG SSr h A (rows*cols) ls)(hr:rows<=10000)(hc:cols<=10000)
 (hK:∀ A' c' h' g' o' xs,h.le g'->Sep h' g' o'->OwnSl o' J8 A' c' xs->xs.length=rows*cols->Row SSr g' xs (rows*cols) (fun k=>ls (k%rows*cols+k/rows))->K (.slice A' (rows*cols) c') h'):aX prog Gr #[.slice A (rows*cols) cap,I (rows:Int),I (cols:Int)] h K:=by
 refine Xt _ _ _ _ _ ?_
 unfold Wv
 have ac:rows*cols<=10000*10000:=bB hr hc
 refine L8 Ft (zx:=([]:List UInt8)) rfl (by omega) (by omega) (by omega) (by omega) ?_
 intro b X
 simp only [aH]
 refine ⟨_,_,_,rfl,fun L t=>∃ (j:Nat) (g o:aG) (xs:List (List UInt8)) (A':Option aJ) (c':Nat),j<=cols/\L=[.slice A' (j*rows) c',I (j:Int)]/\h.le g/\Sep t g o/\OwnSl o J8 A' c' xs/\xs.length=j*rows/\Row SSr g xs (j*rows) (fun k=>ls (k%rows*cols+k/rows)),fun L _=>cols-(iAt L 1).toNat,
  ⟨0,h,Bh.put b _,[],some ⟨b,0,none⟩,rows*cols,by omega,by rw [bM];rfl,B4 _,Y9 X,Kg,by simp,by rw [bM];exact Row.nil⟩,?_⟩
 rintro O rn rc z t ⟨j,g,o,xs,A',c',hj,B,M,s,N,m,F⟩
 obtain ⟨⟨rfl,rfl,rfl⟩,rfl⟩:=sI2 B
 refine B7 (fun ad=>?_) (fun W=>?_)
 ·have u:j<cols:=by omega
  have q:(j+1)*rows=j*rows+rows:=by rw [aK,aM]
  have C:(j+1)*rows<=cols*rows:=aD _ u
  rw [aL cols rows] at C
  refine ⟨fun L t=>∃ (i:Nat) (g o:aG) (xs:List (List UInt8)) (A':Option aJ) (c':Nat),i<=rows/\L=[.slice A' (j*rows+i) c',I (i:Int)]/\h.le g/\Sep t g o/\OwnSl o J8 A' c' xs/\xs.length=j*rows+i/\Row SSr g xs (j*rows+i) (fun k=>ls (k%rows*cols+k/rows)),fun L _=>rows-(iAt L 1).toNat,
   ⟨0,g,o,xs,O,rc,by omega,rfl,M,s,N,m,F⟩,?_⟩
  rintro qA qn qc z aa ⟨i,g2,V,x,A2,c2,hi,B,d,G,r,c,l⟩
  obtain ⟨⟨rfl,rfl,rfl⟩,rfl⟩:=sI2 B
  refine B7 (fun S=>?_) (fun Q=>?_)
  ·have e:i<rows:=by omega
   have p:=Bj e u
   have ew:B6 (B6 ((i:Int)*(cols:Int))+(j:Int))=((i*cols+j:Nat):Int):=by
    rw [<- aV,Z2 (by omega)]
    exact Z2 (n:=i*cols+j) (by omega)
   rw [ew]
   obtain ⟨a,ea,D⟩:=(rv'.mono L7 (B0 d G.le)).sat p
   refine ⟨a,ea,by omega,by omega,_,D,?_⟩
   refine O6 (ty:=Fq) Ft G r c.symm (y:=ls (i*cols+j)) rfl (by decide) (by rw [c];omega) (by rw [c];omega) ?_
   intro A3 c3 h3 T o3 H Z E _
   rw [c,wiS i (by omega)]
   refine ⟨⟨i+1,T,o3,_,A3,c3,by omega,by rw [dN],B0 d H,Z,E,by rw [aC,c];rfl,?_⟩,?_⟩
   ·have J:=Row.push (R:=SSr) (g:=T) (xs:=x) (f:=fun k=>ls (k%rows*cols+k/rows)) (by rw [c];exact l.mono L7 H) (w:=ls (i*cols+j)) (by
     show ls (i*cols+j)=ls (x.length%rows*cols+x.length/rows)
     rw [c,cO (j*rows) i,bI,cH e,bZ _ _ (by omega),bH e,aN])
    rw [aC,c] at J
    exact J
   ·show rows-((i+1:Nat):Int).toNat<rows-(i:Int).toNat
    omega
  ·have:i=rows:=by omega
   subst this
   rw [wiS j (by omega),<- q]
   rw [<- q] at c l
   refine ⟨⟨j+1,g2,V,x,qA,qc,by omega,rfl,d,G,r,c,l⟩,?_⟩
   show cols-((j+1:Nat):Int).toNat<cols-(j:Int).toNat
   omega
 ·have:j=cols:=by omega
  subst this
  rw [aL j rows] at m F ⊢
  exact hK O rc t g o xs M s N m F
def OwnS(h h':aG)(A:Option aJ)(c n:Nat)(f:Nat->List UInt8):Prop:=∃ g o xs,h.le g/\Sep h' g o/\OwnSl o J8 A c xs/\xs.length=n/\Row SSr g xs n f
def Uz(gl:Gl h)(rv':bG SSr h A n ls)(hn:n<=1000000)(hl:LL n ls)
 (hK1:∀ rows cols,MOk r c n ls rows cols->∀ h' A' c',OwnS h h' A' c' n (fun k=>ls (k%rows*cols+k/rows))->K (.tuple #[Yo c r A' n c',I 0]) h')
 (hK0:¬ Mx r c n ls->∀ h',h.le h'->K (.tuple #[Yo 0 0 none 0 0,I 1]) h'):aX prog Iq #[Yo r c A n cap] h K:=by
 refine A21 _ _ _ _ _ ?_
 unfold Zo
 refine Uy gl rv' hn hl (fun g=>⟨_,rfl,?_⟩) (fun a=>⟨_,rfl,hK0 a h (B4 _)⟩)
 obtain ⟨rows,cols,mk⟩:=g
 have l:=hK1 rows cols mk
 obtain ⟨rfl,rfl,_,_,_,_,rfl,_⟩:=id mk
 have:=mk.r2;have:=mk.c2
 refine A3f rv' (by omega) (by omega) ?_
 intro A2 c2 j q f p d e o b m
 exact ⟨_,_,_,rfl,B0 d e.le,l j A2 c2 ⟨q,f,p,d,e,o,b,m⟩⟩
end
def Br.nt{X Y:Prop}(y:Y):Br (!true) X Y:=y
def Pq{X Y:Prop}(x:X):Br (!false) X Y:=x
structure MOut where
 r:Int
 c:Int
 n:Nat
 f:Nat->List UInt8
 e:Int
def noM(e:Int):MOut:=⟨0,0,0,fun _=>[],e⟩
section
variable {h:aG} {K:VP} {A B:Option aJ} {n n2 cap cap2 m w:Nat} {r c r2 c2:Int} {la lb:Nat->List UInt8}
end
structure VV where
 A:Option aJ
 n:Nat
 c:Nat
 s:Bool
 B:Option aJ
 bn:Nat
 bc:Nat
abbrev VV.v(w:VV):cC:=.agg #[.slice w.A w.n w.c,.bool w.s,.slice w.B w.bn w.bc]
instance:Enc VV:=⟨⟨fun w=>[.slice w.A w.n w.c,.bool w.s,.slice w.B w.bn w.bc],3,fun _=>rfl,fun w v hv=>by
 simp only [List.mem_cons,List.not_mem_nil,or_false] at hv
 rcases hv with rfl|rfl|rfl<;>rfl⟩⟩
def VQr(w:Nat):aG->VV->(Nat->Rat)->Prop:=fun h v f=>v.n=w/\ZI h v.s v.B v.bn v.bc (Bi f w:Int)/\bG ZIr h v.A w (fun j=>scl (f j) (Bi f w:Int))
def A3i(w:Nat):Mon (VQr w):=fun _ _ _ _ l i=>⟨i.1,i.2.1.mono l,i.2.2.mono Kk l⟩
section
variable {h:aG} {K:VP} {A B:Option aJ} {n cap m w:Nat} {f f2:Nat->Rat}
def Ux(gl:Gl h)(r:bG RQr h A n f)(hn:n<=10000)(hs:∀ i,i<n->Sz m (f i))(hm:1+n*m+m<=6400000000)
 (hK:∀ v h',h.le h'->VQr n h' v f->K v.v h'):aX prog Dh #[.slice A n cap] h K:=by
 refine A22 _ _ _ ?_
 unfold Zp
 have hd:=Ld (f:=f) n hs
 refine ⟨?_,?_⟩
 ·refine L8 tZs (zx:=(⟨false,none,0,0⟩:IV)) rfl (by omega) (by omega) (by omega) (by omega) ?_
  intro b H
  simp only [aH]
  have R:=(Sep.refl h).new H (.cells ((aO n (⟨false,none,0,0⟩:IV)).flatMap enc).toArray Fn)
  refine ⟨_,_,_,rfl,R.le,R.call (Ea gl r (by omega) hs hm ?_)⟩
  intro V Bd M J x u id h1 B
  refine ⟨_,_,_,_,rfl,R.le_le B u,?_⟩
  refine ⟨fun L t=>∃ (k:Nat) (g o:aG) (c:List IV),k<=n/\L=[I (k:Int)]/\x.le g/\Sep t g o/\RowX o b c/\c.length=n/\Row ZIr g c k (fun j=>scl (f j) (Bi f n:Int)),fun L _=>n-(iAt L 0).toNat,⟨0,x,_,aO n ⟨false,none,0,0⟩,by omega,rfl,B4 _,B,RowX.mk,aP,Row.nil⟩,?_⟩
  rintro z t ⟨k,g,o,c,hk,F,e,s,C,E,D⟩
  obtain rfl:=sI1 F
  refine B7 (fun X=>?_) (fun G=>?_)
  ·have l:k<n:=by omega
   obtain ⟨a,w,O,iw,c0,c1,c2,W⟩:=(r.mono K9 (B0 u e)).qat l
   refine ⟨a,O,by omega,by omega,_,_,_,_,_,_,_,_,B5 s.le c0,B5 s.le c1,B5 s.le c2,B5 s.le W,?_⟩
   refine s.call (Ky (m:=1+n*m+m) iw (id.mono e) ((hs k l).mono (by omega)) (hd.mono (by omega)) hm ?_)
   intro Z A2 Q c2 g2 q N h2 d
   refine ⟨_,_,_,_,rfl,s.le_le d q,_,rfl,by omega,by omega,?_⟩
   refine S0 A02 (y:=(⟨Z,A2,Q,c2⟩:IV)) rfl d C (i:=k) (by omega) ?_
   intro h7 T x7 eo S p
   rw [wiS k (by omega)]
   exact ⟨⟨k+1,g2,T,_,by omega,rfl,B0 e q,S,p,by rw [cK];exact E,(D.mono Kk q).set (by omega) N⟩,by simp only [Bk];omega⟩
  ·have:k=n:=by omega
   subst this
   exact hK ⟨some ⟨b,0,none⟩,k,k,V,Bd,M,J⟩ t (B0 u (B0 e s.le)) ⟨rfl,id.mono (B0 e s.le),c,C.rowB.slF s.ole,E,D.mono Kk s.le⟩
 ·refine Ea gl r (by omega) hs hm ?_
  intro V Bd M J x u id
  refine ⟨_,_,_,_,rfl,u,L8 tZs (zx:=(⟨false,none,0,0⟩:IV)) rfl (by omega) (by omega) (by omega) (by omega) ?_⟩
  intro b H
  simp only [aH]
  have B:=(Sep.refl x).new H (.cells ((aO n (⟨false,none,0,0⟩:IV)).flatMap enc).toArray Fn)
  refine ⟨_,_,_,rfl,B.le,?_⟩
  refine ⟨fun L t=>∃ (k:Nat) (g o:aG) (c:List IV),k<=n/\L=[I (k:Int)]/\x.le g/\Sep t g o/\RowX o b c/\c.length=n/\Row ZIr g c k (fun j=>scl (f j) (Bi f n:Int)),fun L _=>n-(iAt L 0).toNat,⟨0,x,_,aO n ⟨false,none,0,0⟩,by omega,rfl,B4 _,B,RowX.mk,aP,Row.nil⟩,?_⟩
  rintro z t ⟨k,g,o,c,hk,F,e,s,C,E,D⟩
  obtain rfl:=sI1 F
  refine B7 (fun X=>?_) (fun G=>?_)
  ·have l:k<n:=by omega
   obtain ⟨a,w,O,iw,c0,c1,c2,W⟩:=(r.mono K9 (B0 u e)).qat l
   refine ⟨a,O,by omega,by omega,_,_,_,_,_,_,_,_,B5 s.le c0,B5 s.le c1,B5 s.le c2,B5 s.le W,?_⟩
   refine s.call (Ky (m:=1+n*m+m) iw (id.mono e) ((hs k l).mono (by omega)) (hd.mono (by omega)) hm ?_)
   intro Z A2 Q c2 g2 q N h2 d
   refine ⟨_,_,_,_,rfl,s.le_le d q,_,rfl,by omega,by omega,?_⟩
   refine S0 A02 (y:=(⟨Z,A2,Q,c2⟩:IV)) rfl d C (i:=k) (by omega) ?_
   intro h7 T x7 eo S p
   rw [wiS k (by omega)]
   exact ⟨⟨k+1,g2,T,_,by omega,rfl,B0 e q,S,p,by rw [cK];exact E,(D.mono Kk q).set (by omega) N⟩,by simp only [Bk];omega⟩
  ·have:k=n:=by omega
   subst this
   exact hK ⟨some ⟨b,0,none⟩,k,k,V,Bd,M,J⟩ t (B0 u (B0 e s.le)) ⟨rfl,id.mono (B0 e s.le),c,C.rowB.slF s.ole,E,D.mono Kk s.le⟩
def smZ(x y:Nat->Int):Nat->Int
 | 0=>0
 | k+1=>smZ x y k+x k*y k
def smA(x y:Nat->Int):Nat->Int
 | 0=>0
 | k+1=>smA x y k+(x k*y k).natAbs
def B97{x y:Nat->Int}{m w:Nat}(hx:∀ j,j<w->ZB m (x j))(hy:∀ j,j<w->ZB m (y j)):∀ k,k<=w->smA x y k<=k*2^(2*m):=by
 intro k
 induction k with
 | zero=>intro _;simp [smA]
 | succ k ih=>
  intro b
  have c:=ih (by omega)
  have d:=A66 (hx k (by omega)) (hy k (by omega))
  have a:((k+1:Nat):Int)*2^(2*m)=(k:Int)*2^(2*m)+2^(2*m):=by rw [Int.natCast_add,Int.add_mul];simp
  show smA x y k+((x k*y k).natAbs:Int)<=_
  rw [a]
  omega
def C0s(x y:Nat->Int):∀ k,((smZ x y k).natAbs:Int)<=smA x y k:=by
 intro k
 induction k with
 | zero=>exact Int.le_refl _
 | succ k ih=>
  show ((smZ x y k+x k*y k).natAbs:Int)<=smA x y k+((x k*y k).natAbs:Int)
  omega
def C3c{x y:Nat->Int}{m w:Nat}(hx:∀ j,j<w->ZB m (x j))(hy:∀ j,j<w->ZB m (y j))(hw:w<=10000):ZB (2*m+14) (smZ x y w):=by
 have b:=B97 hx hy w (aF _)
 have c:=C0s x y w
 have e:(2:Int)^(2*m)=((2^(2*m):Nat):Int):=by simp
 rw [e,<- aV] at b
 have f:w*2^(2*m)<=10000*2^(2*m):=aD _ hw
 have a:2^(2*m+14)=2^(2*m)*16384:=by rw [Nat.pow_add]
 have d:0<2^(2*m):=cZ (by decide)
 unfold ZB
 rw [a]
 omega
def C3d{p q:Nat->Rat}{x y:Nat->Int}{d e:Int}{w:Nat}(hx:∀ j,j<w->(x j:Rat)=p j*d)(hy:∀ j,j<w->(y j:Rat)=q j*e):∀ k,k<=w->(smZ x y k:Rat)=sm k (fun j=>p j*q j)*((d*e:Int):Rat):=by
 intro k
 induction k with
 | zero=>intro _;show ((0:Int):Rat)=0*_;rw [bV];rfl
 | succ k ih=>
  intro a
  show ((smZ x y k+x k*y k:Int):Rat)=(sm k (fun j=>p j*q j)+p k*q k)*((d*e:Int):Rat)
  rw [Rat.intCast_add,ih (by omega),bD d e,bD (x k) (y k),hx k (by omega),hy k (by omega)]
  grind
def Xz{v u:VV}(gl:Gl h)(iv:VQr w h v f)(iu:VQr w h u f2)(hw:w<=10000)(hs:∀ i,i<w->Sz m (f i))(hs2:∀ i,i<w->Sz m (f2 i))(hm1:1<=m)(hm:2*(1+w*m+m)+14<=100000000)
 (hK:∀ q h',h.le h'->RQ h' q (sm w (fun j=>f j*f2 j))->K q.v h'):aX prog Tr #[v.v,u.v] h K:=by
 refine B5x _ _ _ _ _ _ _ _ _ _ _ _ _ _ ?_
 unfold C09
 obtain ⟨ad,s,t⟩:=iv
 obtain ⟨af,B,A⟩:=iu
 have d:=Ld (f:=f) w hs
 have c:=Ld (f:=f2) w hs2
 have x:∀ j,j<w->ZB (1+w*m+m) (scl (f j) (Bi f w:Int)):=fun j e=>(B2f (hs j e) d).mono (by omega)
 have D:∀ j,j<w->ZB (1+w*m+m) (scl (f2 j) (Bi f2 w:Int)):=fun j e=>(B2f (hs2 j e) c).mono (by omega)
 refine Dp A83 ?_
 intro bs r
 have Z0:SumS (h.put bs (.cells #[.slice none 0 0,.slice none 0 0] Ku)) h bs Ku 200000001 0 0:=SumS.zero r
 refine ⟨_,rfl,fun L M=>∃ (k:Nat) (g:aG),k<=w/\L=[I (k:Int)]/\h.le g/\SumS M g bs Ku 200000001 (smA (fun j=>scl (f j) (Bi f w:Int)) (fun j=>scl (f2 j) (Bi f2 w:Int)) k) (smZ (fun j=>scl (f j) (Bi f w:Int)) (fun j=>scl (f2 j) (Bi f2 w:Int)) k),fun L _=>w-(iAt L 0).toNat,⟨0,h,by omega,rfl,B4 _,Z0⟩,?_⟩
 rintro z M ⟨k,g,hk,Q,p,Z⟩
 obtain rfl:=sI1 Q
 refine B7 (fun ae=>?_) (fun R=>?_)
 ·have b:k<w:=by omega
  obtain ⟨a,W,ea,N,c0,c1⟩:=(t.mono Kk p).zat b
  obtain ⟨a2,y1,y,O,d0,T⟩:=(A.mono Kk p).zat b
  refine ⟨a,ea,by omega,by omega,_,_,_,_,B5 Z.le c0,B5 Z.le c1,a2,y,by omega,by omega,_,_,_,_,B5 Z.le d0,B5 Z.le T,?_⟩
  have lx:W.n<=100000000:=ZI.len N (x k b) (by omega)
  have ly:y1.n<=100000000:=ZI.len O (D k b) (by omega)
  have hA:=B97 x D (k+1) b
  have G:=B2u (m:=1+w*m+m) (k:=k+1) (by omega) (by omega)
  refine Au Z N O (by omega) (by omega) (N1:=1+w*m+m) (by show smA _ _ (k+1)<_;omega) (by omega) ?_
  intro h3 g3 S Z3
  rw [wiS k (by omega)]
  exact ⟨rfl,⟨k+1,g3,by omega,rfl,B0 p S,Z3⟩,by simp only [Bk];omega⟩
 ·have:k=w:=by omega
  subst this
  refine Nh Z (by omega) ?_
  intro sv Av nv cv h5 H z5
  have l:=B0 p (B0 Z.le H)
  refine ⟨_,_,_,_,rfl,H,?_⟩
  refine L4 (m:=1+k*m+m) (s.mono l) (B.mono l) (d.mono (by omega)) (c.mono (by omega)) (by omega) ?_
  intro s6 A6 n6 c6 h6 E z6
  refine ⟨_,_,_,_,rfl,E,?_⟩
  have o:=B0 l E
  have e1:∀ j,j<k->(scl (f j) (Bi f k:Int):Rat)=f j*((Bi f k:Int):Rat):=fun j e=>B2g (Int.natCast_dvd_natCast.2 (A0m f k j e))
  have V:∀ j,j<k->(scl (f2 j) (Bi f2 k:Int):Rat)=f2 j*((Bi f2 k:Int):Rat):=fun j e=>B2g (Int.natCast_dvd_natCast.2 (A0m f2 k j e))
  have X:=C3d e1 V k (aF _)
  have ac:=A0l f k
  have aa:=A0l f2 k
  have C:((Bi f k:Int)*(Bi f2 k:Int))≠0:=Int.mul_ne_zero (by omega) (by omega)
  have zb:ZB (2*(1+k*m+m)+14) (smZ (fun j=>scl (f j) (Bi f k:Int)) (fun j=>scl (f2 j) (Bi f2 k:Int)) k):=C3c x D (by omega)
  refine Bs (m:=2*(1+k*m+m)+14) (gl.mono o).tz (z5.mono E) z6 zb ((d.mul c).mono (by omega)) (by omega) ?_
  intro q h7 J F
  refine ⟨_,_,_,_,_,_,_,_,rfl,J,hK q h7 (B0 o J) ?_⟩
  have:cD (smZ (fun j=>scl (f j) (Bi f k:Int)) (fun j=>scl (f2 j) (Bi f2 k:Int)) k) ((Bi f k:Int)*(Bi f2 k:Int))=sm k (fun j=>f j*f2 j):=by
   rw [cN,X]
   exact Rat.mul_div_cancel (X6 C)
  rw [this] at F
  exact F
end
def B6z:prog.cellsOf Na=1/\(prog.info? Na).isSome=true:=by constructor<;>kernel_rfl
section
variable {h:aG} {K:VP} {A:Option aJ} {cap m rows cols:Nat} {E:Nat->Rat}
def Hx(gl:Gl h)(r:bG RQr h A (rows*cols) E)(hcap:rows*cols<=cap)(hr2:rows<=10000)(hc:1<=cols)(hc2:cols<=10000)(hs:∀ i,i<rows*cols->Sz m (E i))(hm:1+cols*m+m<=6400000000)
 (hK:∀ A' c' h',h.le h'->bG (VQr cols) h' A' rows (A33 E cols)->K (.slice A' rows c') h'):aX prog Ez #[.slice A (rows*cols) cap,I (cols:Int)] h K:=by
 refine A7n _ _ _ _ ?_
 unfold A9e
 have ad:rows*cols<=100000000:=by
  have:rows*cols<=10000*10000:=bB hr2 hc2
  omega
 refine Dp (z:=.slice none 0 0) (by kernel_rfl) ?_
 intro s C
 refine ⟨_,rfl,?_⟩
 have s0:=(Sep.refl h).new C (.cells #[.slice none 0 0] Na)
 refine s0.call (Yu hc ?_)
 intro v Q S ic ae s3
 have bound:∀ k,k<rows->∀ j,j<cols->Sz m (E (k*cols+j)):=fun k W j hj=>hs _ (Bj W hj)
 refine ⟨_,rfl,Un ic hc (by omega) hcap (fun k R=>∃ (q p:aG) (g:List VV) (A1:Option aJ) (c1:Nat),Q.le q/\Sep R q p/\(∃ e,p s=some (.cells #[.slice A1 k c1] e))/\OwnSl p Xy A1 c1 g/\A1≠some ⟨s,0,none⟩/\g.length=k/\Row (VQr cols) q g k (A33 E cols)) ?_ ?_ ?_ ?_⟩
 ·exact ⟨Q,_,[],none,0,B4 _,s3,⟨_,C0 _ _ _⟩,OwnSl.nil,by simp,rfl,Row.nil⟩
 ·rintro k R ⟨q,p,g,A1,c1,lg,s1,_⟩
  exact B0 lg s1.le
 ·rintro k d B ⟨q,p,g,A1,c1,a,n,⟨e,f⟩,F,N,o,G⟩
  have Z:=bound k B
  have aa:(k+1)*cols<=rows*cols:=aD _ B
  have ac:(k+1)*cols=k*cols+cols:=by rw [aK,aM]
  have t:=B0 S a
  have x:bG RQr h A ((k+1)*cols) E:=by
   have:=r.cut (c:=cap) (l:=0) (k:=(k+1)*cols) (by omega) hcap
   rw [I0] at this
   exact this.congr fun i _=>by rw [aN]
  have u:bG RQr h (K5 A ((k+1)*cols) (k*cols) 4) cols (A33 E cols k):=x.cut (c:=(k+1)*cols) (l:=k*cols) (k:=cols) (by omega) (aF _)
  have cp:d.cell? ⟨s,0,none⟩=some (.slice A1 k c1):=n.cell (by unfold Heap.cell?;simp only [f];rfl)
  refine ⟨_,_,_,rfl,_,_,_,cp,n.call (Ux (gl.mono t) (u.mono K9 t) (by omega) Z hm ?_)⟩
  intro w g2 D iw H T
  refine ⟨_,_,_,_,_,_,_,rfl,n.le_le T D,?_⟩
  subst o
  refine OwnSl.push (ty:=Na) C5g T F (y:=w) (v:=w.v) rfl (by decide) (by omega) (by omega) (K1:=fun hq=>H.le hq) (fun _ l=>l) ?_
  intro A3 c3 h6 V o6 M s6 L kp
  have J:=kp s _ f N
  show wpH _ (aT _ (.pointer (some (aE ⟨s,0,none⟩ 0))) _) _ _
  refine A1t B6z rfl rfl s6 J.1 (by simp) ?_
  intro h7 o7 s7 O
  exact ⟨V,o7,g++[w],A3,c3,B0 a (B0 D M),s7,⟨e,by rw [O,C0];simp⟩,L.keep fun b y X he=>by rw [O,B9 _ _ (fun e=>J.2 (by rw [<- e];exact X))];exact he,J.2,by simp,by
   have:=(Row.push (G.mono (A3i cols) (B0 D M)) (A3i cols _ _ _ _ M iw))
   simpa using this⟩
 ·rintro d ⟨q,p,g,A1,c1,a,n,⟨e,f⟩,F,N,o,G⟩
  have cp:d.cell? ⟨s,0,none⟩=some (.slice A1 rows c1):=n.cell (by unfold Heap.cell?;simp only [f];rfl)
  exact ⟨_,_,_,cp,hK A1 c1 d (B0 S (B0 a n.le)) ⟨g,F.slF n.ole,o,G.mono (A3i cols) n.le⟩⟩
end
section
variable {h:aG} {K:VP} {A B:Option aJ} {n n2 cap cap2 m:Nat} {r c r2 c2:Int} {la lb:Nat->List UInt8} {w:QV} {q:Rat}
end
section
variable {h:aG} {K:VP} {A B:Option aJ} {n w cap cap2 m:Nat} {f f2:Nat->Rat} {R:Nat->Nat->Rat}
def Sq(hs:∀ i,i<w->Sz m (f i))(hs2:∀ i,i<w->Sz m (f2 i)):∀ k,k<=w->Sz (1+k*(2*m+1)) (sm k (fun j=>f j*f2 j)):=by
 intro k
 induction k with
 | zero=>intro _;exact Sz.zero (by omega)
 | succ k ih=>
  intro c
  have a:=ih (by omega)
  have b:=(hs k (by omega)).mul (hs2 k (by omega))
  have e:1+(k+1)*(2*m+1)=1+k*(2*m+1)+(m+m)+1:=by rw [aK];omega
  rw [e]
  exact a.add b
def B3q(ra:bG NQr h A w f)(rb:bG NQr h B w f2)(hw:w<=10000)(hs:∀ i,i<w->Sz m (f i))(hs2:∀ i,i<w->Sz m (f2 i))(hm:1+w*(2*m+1)+2*m<=400000000)
 (hK:∀ v h',h.le h'->NQ h' v (sm w (fun j=>f j*f2 j))->K v.v h'):aX prog B3y #[.slice A w cap,.slice B w cap2] h K:=by
 refine C2u _ _ _ _ _ _ ?_
 unfold C7e
 refine ⟨fun L u=>∃ (k:Nat) (v:QV),k<=w/\L=I (k:Int)::qc v/\h.le u/\NQ u v (sm k (fun j=>f j*f2 j)),fun L _=>w-(iAt L 0).toNat,⟨0,Ao,by omega,rfl,B4 _,NQ.zero⟩,?_⟩
 rintro z x r e p C q g o u ⟨k,v,D,t,l,E⟩
 simp only [bF,cJ,true_and] at t
 obtain ⟨rfl,t⟩:=t
 obtain ⟨rfl,_⟩:=C10 (by simpa only [bF,cG,bC,and_true] using t:(.bool x:cC) :: .slice r e p :: .bool C :: .slice q g o::[]= .bool v.s :: .slice v.A v.n v.c :: .bool v.s2 :: .slice v.A2 v.n2 v.c2::[])
 refine B7 (fun ac=>?_) (fun H=>?_)
 ·have d:k<w:=by omega
  obtain ⟨T,Z,S,Q,c0,c1,c2,c3⟩:=(ra.mono I9 l).qat d
  obtain ⟨M,J,e6,G,W,V,g2,g3⟩:=(rb.mono I9 l).qat d
  have aa:k*(2*m+1)<=w*(2*m+1):=aD _ D
  refine ⟨T,S,by omega,by omega,_,_,_,_,_,_,_,_,c0,c1,c2,c3,M,e6,by omega,by omega,_,_,_,_,_,_,_,_,W,V,g2,g3,?_⟩
  refine No (a:=Z) (b:=J) Q G (hs k d) (hs2 k d) (by omega) ?_
  intro X h7 y R
  refine ⟨_,_,_,_,_,_,_,_,rfl,y,?_⟩
  refine Nq (a:=⟨x,r,e,p,C,q,g,o⟩) (b:=X) (m:=1+k*(2*m+1)+2*m) (NQ.mono y E) R ((Sq hs hs2 k D).mono (by omega)) (((hs k d).mul (hs2 k d)).mono (by omega)) (by omega) ?_
  intro O h8 F N
  rw [wiS k (by omega)]
  refine ⟨_,_,_,_,_,_,_,_,rfl,F,⟨k+1,O,by omega,rfl,B0 l (B0 y F),N⟩,?_⟩
  show w-((k+1:Nat):Int).toNat<w-(k:Int).toNat
  omega
 ·have:k=w:=by omega
  subst this
  exact hK ⟨x,r,e,p,C,q,g,o⟩ u l E
def Vh(rs:RowsV h A n w R)(rx:bG NQr h B w f)(hn:n<=10000)(hw:w<=10000)(hs:∀ i j,i<n->j<w->Sz m (R i j))(hs2:∀ i,i<w->Sz m (f i))(hm:1+w*(2*m+1)+2*m<=400000000)
 (hK:∀ b h',Own NQr h h' b n (fun i=>sm w (fun j=>R i j*f j))->K (.slice (some ⟨b,0,none⟩) n n) h'):aX prog A42 #[.slice A n cap,.slice B w cap2] h K:=by
 refine C2v _ _ _ _ _ _ ?_
 unfold C7f
 refine L8 Ng (zx:=Ao) rfl (by omega) (by omega) (by omega) (by omega) ?_
 intro b C
 simp only [aH]
 refine ⟨_,_,_,rfl,fun L l=>∃ k:Nat,k<=n/\L=[I (k:Int)]/\OwnK NQr h l b n k (fun i=>sm w (fun j=>R i j*f j)),fun L _=>n-(iAt L 0).toNat,⟨0,by omega,rfl,OwnK.zero C⟩,?_⟩
 rintro z l ⟨k,T,u,g,o,Q,c,s,r,q,t⟩
 obtain rfl:=sI1 u
 refine B7 (fun N=>?_) (fun x=>?_)
 ·have a:k<n:=by omega
  obtain ⟨F,V,p,M,E,e,d⟩:=rs.at a
  refine ⟨F,p,by omega,by omega,_,_,_,B5 (B0 c s.le) e,?_⟩
  rw [M]
  refine s.call (B3q (d.mono I9 c) (rx.mono I9 c) hw (fun j J=>hs k j a J) hs2 hm ?_)
  intro v X G D S O
  refine ⟨_,_,_,_,_,_,_,_,rfl,_,rfl,by omega,by omega,?_⟩
  refine OwnK.store I9 Cq (y:=v) c G O r q t a rfl D ?_
  intro W H
  rw [wiS k (by omega)]
  exact ⟨⟨k+1,by omega,rfl,H⟩,by simp only [Bk];omega⟩
 ·have:k=n:=by omega
  subst this
  exact hK b l ⟨g,o,Q,c,s,r,q,t⟩
end
structure VOut where
 n:Nat
 f:Nat->List UInt8
 e:Int
def noV(e:Int):VOut:=⟨0,fun _=>[],e⟩
def C68(r c:Int)(n:Nat)(la:Nat->List UInt8)(n2:Nat)(lx:Nat->List UInt8)(o:VOut):Prop:=
 (¬ (Mx r c n la/\∀ i,i<n2->cW (lx i))/\o=noV 1)\/(Mx r c n la/\(∀ i,i<n2->cW (lx i))/\(n2:Int)≠c/\o=noV 4)\/(∃ rows cols,MOk r c n la rows cols/\(∀ i,i<n2->cW (lx i))/\(n2:Int)=c/\o=⟨rows,fun i=>I8 (sm cols (fun j=>mtx (rvs la) cols i j*rv (lx j))),0⟩)
section
variable {h:aG} {K:VP} {A B:Option aJ} {n n2 cap cap2 m:Nat} {r c:Int} {la lx:Nat->List UInt8}
end
section
variable {h:aG} {K:VP} {A B:Option aJ} {n n2 cap cap2 m:Nat} {r c:Int} {la lx:Nat->List UInt8}
def RowV.vat{w n:Nat}{f:Nat->Nat->Rat}(r:bG (VQr w) h A n f){i:Nat}(hi:i<n):∃ a v,A=some a/\VQr w h v (f i)/\h.cell? (aE (aE a (i*3)) 0)=some (.slice v.A v.n v.c)/\h.cell? (aE (aE a (i*3)) 1)=some (.bool v.s)/\h.cell? (aE (aE a (i*3)) 2)=some (.slice v.B v.bn v.bc):=by
 obtain ⟨a,v,e,q,b⟩:=RowV.at (by decide) r hi
 exact ⟨a,v,e,q,b 0 _ rfl,b 1 _ rfl,b 2 _ rfl⟩
def OwnS.none{h h':aG}{f:Nat->List UInt8}(l:h.le h'):OwnS h h' none 0 0 f:=⟨h',Bh,[],l,Sep.refl h',OwnSl.nil,rfl,Row.nil⟩
def Ru(gl:Gl h)(ra:bG SSr h A n la)(rx:bG SSr h B n2 lx)(hn:n<=1000000)(hn2:n2<=1000000)(hl:LL n la)(hl2:LL n2 lx)(hs:∀ i,i<n->Sz m (rv (la i)))(hs2:∀ i,i<n2->Sz m (rv (lx i)))(hm1:1<=m)(hm:∀ rows cols,MOk r c n la rows cols->2*(1+cols*(2*m+1)+2*m)+14<=40000000)
 (hK:∀ o,C68 r c n la n2 lx o->∀ A' cap' h',OwnS h h' A' cap' o.n o.f->K (.tuple #[.slice A' o.n cap',I o.e]) h'):aX prog Tt #[Yo r c A n cap,.slice B n2 cap2] h K:=by
 refine B62 _ _ _ _ _ _ _ _ ?_
 unfold C0c
 have J:¬ (Mx r c n la/\∀ i,i<n2->cW (lx i))->∀ h',h.le h'->K (.tuple #[.slice none 0 0,I 1]) h':=fun hx h' l=>hK (noV 1) (.inl ⟨hx,rfl⟩) none 0 h' (OwnS.none l)
 refine Es gl ra hn hl (fun rows cols mk b1 h1 own=>?_) (fun E h1 F=>⟨_,_,_,_,rfl,?_⟩)
 ·have F:=own.le
  refine ⟨_,_,_,_,rfl,Ah (gl.mono F) (rx.mono L7 F) hn2 hl2 (fun t b2 G p=>⟨_,_,_,_,rfl,Br.nt (Br.nt ?_)⟩) (fun E G O=>⟨_,_,_,_,rfl,Br.nt (Pq (J (fun x=>E x.2) G (B0 F O)))⟩)⟩
  have O:=p.le
  have D:=B0 F O
  refine J4 (fun e=>hK (noV 4) (.inr (.inl ⟨⟨_,_,mk⟩,t,e,rfl⟩)) none 0 G (OwnS.none D)) (fun e=>?_)
  have Q:=hK _ (.inr (.inr ⟨rows,cols,mk,t,e,rfl⟩))
  have:=mk.r1;have:=mk.r2;have:=mk.c1;have:=mk.c2
  obtain rfl:n2=cols:=by have:=mk.ec;omega
  obtain ⟨rfl,rfl,_,_,_,_,rfl,_⟩:=id mk
  have ms:=Yn hs
  have af:=hm _ _ mk
  have ad:n2*m<=n2*(2*m+1):=Nat.mul_le_mul_left n2 (by omega)
  refine Ux (m:=m) (gl.mono D) (p.vis K9) (by omega) hs2 (by omega) ?_
  intro w h3 S iw
  refine ⟨_,_,_,_,_,_,_,rfl,?_⟩
  refine L8 Ft (zx:=([]:List UInt8)) rfl (by omega) (by omega) (by omega) (by omega) ?_
  intro b hb
  simp only [aH]
  refine ⟨_,_,_,rfl,Sep.call ((Sep.refl h3).new hb _) (Hx (m:=m) (gl.mono (B0 D S)) ((own.vis K9).mono K9 (B0 O S)) (aF _) (by omega) (by omega) (by omega) hs (by omega) ?_)⟩
  intro A4 c4 g4 l4 W h4 s4
  have H:=B0 D (B0 S l4)
  refine ⟨_,_,_,rfl,fun L X=>∃ (k:Nat) (g o:aG) (xs:List (List UInt8)) (A':Option aJ) (V:Nat),k<=rows/\L=[.slice A' k V,I (k:Int)]/\g4.le g/\Sep X g o/\OwnSl o J8 A' V xs/\xs.length=k/\Row SSr g xs k (fun i=>I8 (sm n2 (fun j=>mtx (rvs la) n2 i j*rv (lx j)))),fun L _=>rows-(iAt L 1).toNat,
   ⟨0,g4,_,[],_,_,by omega,rfl,B4 _,s4,Kg,rfl,Row.nil⟩,?_⟩
  rintro rA C rc z X ⟨k,g,o,xs,A',V,hk,eL,N,s,ow,d,rr⟩
  obtain ⟨⟨rfl,rfl,rfl⟩,rfl⟩:=sI2 eL
  refine B7 (fun ag=>?_) (fun ae=>?_)
  ·have M:C<rows:=by omega
   obtain ⟨a,v,ea,iv,c0,c1,aa⟩:=(W.mono (A3i n2) N).vat M
   refine ⟨a,ea,by omega,by omega,_,_,_,_,_,_,_,B5 s.le c0,B5 s.le c1,B5 s.le aa,?_⟩
   refine s.call (Xz (m:=m) (v:=v) (u:=w) (gl.mono (B0 H N)) iv (A3i n2 _ _ _ _ (B0 l4 N) iw) (by omega) (fun j Z=>ms C j M Z) hs2 hm1 (by omega) ?_)
   intro q g5 T iq h5 s5
   refine ⟨_,_,_,_,_,_,_,_,rfl,s5.call (T4 (gl.mono (B0 H (B0 N T))).p10 iq (Sq (fun j Z=>ms C j M Z) hs2 n2 (aF _)) (by omega) ?_)⟩
   intro h6 s6
   refine ⟨_,rfl,?_⟩
   refine O6 (ty:=Fq) Ft s6 ow d.symm (y:=I8 (sm n2 (fun j=>mtx (rvs la) n2 C j*rv (lx j)))) rfl (by decide) (by omega) (by omega) ?_
   intro A7 c7 h7 g7 o7 l7 s7 ac _
   rw [d,wiS C (by omega)]
   refine ⟨⟨C+1,g7,o7,_,A7,c7,by omega,rfl,B0 N (B0 T l7),s7,ac,by rw [aC,d];rfl,?_⟩,?_⟩
   ·have rB:=Row.push (R:=SSr) (g:=g7) (xs:=xs) (f:=fun i=>I8 (sm n2 (fun j=>mtx (rvs la) n2 i j*rv (lx j)))) (by rw [d];exact rr.mono L7 (B0 T l7)) (w:=I8 (sm n2 (fun j=>mtx (rvs la) n2 C j*rv (lx j)))) (by rw [d])
    rw [aC,d] at rB
    exact rB
   ·show rows-((C+1:Nat):Int).toNat<rows-(C:Int).toNat
    omega
  ·have:C=rows:=by omega
   subst this
   exact Q rA rc X ⟨g,o,xs,B0 H N,s,ow,d,rr⟩
 ·refine Ah (gl.mono F) (rx.mono L7 F) hn2 hl2 (fun t b2 G p=>⟨_,_,_,_,rfl,Pq (J (fun x=>E x.1) G (B0 F p.le))⟩) (fun _ G O=>⟨_,_,_,_,rfl,Pq (J (fun x=>E x.1) G (B0 F O))⟩)
end
def C7b(r c:Int)(n:Nat)(la:Nat->List UInt8)(r2 c2:Int)(n2:Nat)(lb:Nat->List UInt8)(o:MOut):Prop:=
 (¬ (Mx r c n la/\Mx r2 c2 n2 lb)/\o=noM 1)\/(Mx r c n la/\Mx r2 c2 n2 lb/\c≠r2/\o=noM 4)\/(∃ rows mid cols,MOk r c n la rows mid/\MOk r2 c2 n2 lb mid cols/\o=⟨r,c2,rows*cols,fun k=>I8 (sm mid (fun j=>mtx (rvs la) mid (k/cols) j*mtx (rvs lb) cols j (k%cols))),0⟩)
def B08{f f':Nat->Rat}: ∀ n,(∀ i,i<n->f i=f' i)->Bi f n=Bi f' n:=by
 intro n
 induction n with
 | zero=>intro _;rfl
 | succ n ih=>
  intro e
  show dU (Bi f n) (f n).den=dU (Bi f' n) (f' n).den
  rw [ih fun i a=>e i (by omega),e n (by omega)]
def VQr.congr{h:aG}{w:Nat}{v:VV}{f f':Nat->Rat}(x:VQr w h v f)(e:∀ i,i<w->f i=f' i):VQr w h v f':=by
 have g:Bi f w=Bi f' w:=B08 w e
 obtain ⟨a,b,c⟩:=x
 rw [g] at b c
 exact ⟨a,b,c.congr fun j d=>by rw [e j d]⟩
section
variable {h:aG} {K:VP} {A B:Option aJ} {n n2 cap cap2 m:Nat} {r c r2 c2:Int} {la lb:Nat->List UInt8} {E:Nat->Rat}
def Nv{rows cols:Nat}(rv':bG RQr h A (rows*cols) E)(hr:rows<=10000)(hc:cols<=10000)
 (hK:∀ A' c' h' g' o' xs,h.le g'->Sep h' g' o'->OwnSl o' K6 A' c' xs->xs.length=rows*cols->Row RQr g' xs (rows*cols) (fun k=>E (k%rows*cols+k/rows))->K (.slice A' (rows*cols) c') h'):aX prog W5 #[.slice A (rows*cols) cap,I (rows:Int),I (cols:Int)] h K:=by
 refine Xu _ _ _ _ _ ?_
 unfold Ww
 have ac:rows*cols<=10000*10000:=bB hr hc
 refine L8 B25 (zx:=Ao) rfl (by omega) (by omega) (by omega) (by omega) ?_
 intro b hb
 simp only [aH]
 refine ⟨_,_,_,rfl,fun L u=>∃ (j:Nat) (g o:aG) (xs:List QV) (A':Option aJ) (c':Nat),j<=cols/\L=[.slice A' (j*rows) c',I (j:Int)]/\h.le g/\Sep u g o/\OwnSl o K6 A' c' xs/\xs.length=j*rows/\Row RQr g xs (j*rows) (fun k=>E (k%rows*cols+k/rows)),fun L _=>cols-(iAt L 1).toNat,
  ⟨0,h,Bh.put b _,[],some ⟨b,0,none⟩,rows*cols,by omega,by rw [bM];rfl,B4 _,Y9 hb,Kg,by simp,by rw [bM];exact Row.nil⟩,?_⟩
 rintro T rn rc z u ⟨j,g,o,xs,A',c',hj,C,Q,s,S,m,H⟩
 obtain ⟨⟨rfl,rfl,rfl⟩,rfl⟩:=sI2 C
 refine B7 (fun ad=>?_) (fun Z=>?_)
 ·have x:j<cols:=by omega
  have r:(j+1)*rows=j*rows+rows:=by rw [aK,aM]
  have F:(j+1)*rows<=cols*rows:=aD _ x
  rw [aL cols rows] at F
  refine ⟨fun L u=>∃ (i:Nat) (g o:aG) (xs:List QV) (A':Option aJ) (c':Nat),i<=rows/\L=[.slice A' (j*rows+i) c',I (i:Int)]/\h.le g/\Sep u g o/\OwnSl o K6 A' c' xs/\xs.length=j*rows+i/\Row RQr g xs (j*rows+i) (fun k=>E (k%rows*cols+k/rows)),fun L _=>rows-(iAt L 1).toNat,
   ⟨0,g,o,xs,T,rc,by omega,rfl,Q,s,S,m,H⟩,?_⟩
  rintro qA qn qc z aa ⟨i,g2,X,B,A2,c2,hi,C,d,p,t,c,l⟩
  obtain ⟨⟨rfl,rfl,rfl⟩,rfl⟩:=sI2 C
  refine B7 (fun W=>?_) (fun V=>?_)
  ·have e:i<rows:=by omega
   have q:=Bj e x
   have ew:B6 (B6 ((i:Int)*(cols:Int))+(j:Int))=((i*cols+j:Nat):Int):=by
    rw [<- aV,Z2 (by omega)]
    exact Z2 (n:=i*cols+j) (by omega)
   rw [ew]
   obtain ⟨a,w,ea,iw,c0,c1,J,N⟩:=(rv'.mono K9 d).qat q
   refine ⟨a,ea,by omega,by omega,_,_,_,_,_,_,_,_,B5 p.le c0,B5 p.le c1,B5 p.le J,B5 p.le N,?_⟩
   refine O6 (ty:=U6) B25 p t c.symm (y:=w) rfl (by decide) (by rw [c];omega) (by rw [c];omega) ?_
   intro A3 N h3 M o3 D s3 G _
   rw [c,wiS i (by omega)]
   refine ⟨⟨i+1,M,o3,_,A3,N,by omega,by rw [dN],B0 d D,s3,G,by rw [aC,c];rfl,?_⟩,?_⟩
   ·have O:=Row.push (R:=RQr) (g:=M) (xs:=B) (f:=fun k=>E (k%rows*cols+k/rows)) (by rw [c];exact l.mono K9 D) (w:=w) (by
     show RQ M w (E (B.length%rows*cols+B.length/rows))
     rw [c,cO (j*rows) i,bI,cH e,bZ _ _ (by omega),bH e,aN]
     exact K9 _ _ _ _ D iw)
    rw [aC,c] at O
    exact O
   ·show rows-((i+1:Nat):Int).toNat<rows-(i:Int).toNat
    omega
  ·have:i=rows:=by omega
   subst this
   rw [wiS j (by omega),<- r]
   rw [<- r] at c l
   refine ⟨⟨j+1,g2,X,B,qA,qc,by omega,rfl,d,p,t,c,l⟩,?_⟩
   show cols-((j+1:Nat):Int).toNat<cols-(j:Int).toNat
   omega
 ·have:j=cols:=by omega
  subst this
  rw [aL j rows] at m H ⊢
  exact hK T rc u g o xs Q s S m H
def A3g{rows cols:Nat}(rv':bG RQr h A (rows*cols) E)(hr:rows<=10000)(hc:cols<=10000)
 (hK:∀ A' c' h',h.le h'->rows*cols<=c'->bG RQr h' A' (rows*cols) (fun k=>E (k%rows*cols+k/rows))->K (.slice A' (rows*cols) c') h'):aX prog W5 #[.slice A (rows*cols) cap,I (rows:Int),I (cols:Int)] h K:=
 Nv rv' hr hc fun A' c' h' _ _ e d s b a c=>hK A' c' h' (B0 d s.le) (by have:=b.1;omega) ⟨e,b.slF s.ole,a,c.mono K9 s.le⟩
def B05{d:Nat}(gl:Gl h)(ra:bG SSr h A n la)(rb:bG SSr h B n2 lb)(hn:n<=1000000)(hn2:n2<=1000000)(hl:LL n la)(hl2:LL n2 lb)(hs:∀ i,i<n->Sz m (rv (la i)))(hs2:∀ i,i<n2->Sz m (rv (lb i)))(hm1:1<=m)(hd:∀ rows mid,MOk r c n la rows mid->mid<=d)(hm:2*(1+d*(2*m+1)+2*m)+14<=40000000)
 (hK:∀ o,C7b r c n la r2 c2 n2 lb o->∀ A' cap' h',h.le h'->bG SSr h' A' o.n o.f->K (.tuple #[Yo o.r o.c A' o.n cap',I o.e]) h'):aX prog A8s #[Yo r c A n cap,Yo r2 c2 B n2 cap2] h K:=by
 refine C2t _ _ _ _ _ _ _ _ _ _ ?_
 unfold C7c
 have V:¬ (Mx r c n la/\Mx r2 c2 n2 lb)->∀ h',h.le h'->K (.tuple #[Yo 0 0 none 0 0,I 1]) h':=fun hx h' l=>hK (noM 1) (.inl ⟨hx,rfl⟩) none 0 h' l RowV.nil
 refine Es gl ra hn hl (fun rows mid mk b1 h1 own=>?_) (fun M h1 J=>⟨_,_,_,_,rfl,?_⟩)
 ·have J:=own.le
  refine ⟨_,_,_,_,rfl,Es (gl.mono J) (rb.mono L7 J) hn2 hl2 (fun C p E b2 S F=>⟨_,_,_,_,rfl,Br.nt (Br.nt ?_)⟩) (fun M S l2=>⟨_,_,_,_,rfl,Br.nt (Pq (V (fun x=>M x.2) S (B0 J l2)))⟩)⟩
  have l2:=F.le
  have T:=B0 J l2
  refine J4 (fun e=>hK (noM 4) (.inr (.inl ⟨⟨_,_,mk⟩,⟨_,_,E⟩,e,rfl⟩)) none 0 S T RowV.nil) (fun e=>?_)
  obtain rfl:C=mid:=by have:=mk.ec;have:=E.er;omega
  have aa:=hK _ (.inr (.inr ⟨rows,C,p,mk,E,rfl⟩))
  have:=mk.r1;have:=mk.r2;have:=mk.c1;have:=mk.c2;have:=E.c1;have:=E.c2
  obtain ⟨rfl,rfl,_,_,_,_,rfl,_⟩:=id mk
  obtain ⟨rfl,rfl,_,_,_,_,rfl,_⟩:=id E
  clear e
  have ms:=Yn hs
  have ad:=Yn hs2
  have ac:=hd _ _ mk
  have a5:C*(2*m+1)<=d*(2*m+1):=aD _ ac
  have aw:C*m<=d*m:=aD _ ac
  have ax:d*(2*m+1)=2*(d*m)+d:=by rw [Nat.mul_add,Nat.mul_one,Nat.mul_left_comm]
  have a0:rows*p<=64*64:=bB (by omega) (by omega)
  refine Hx (m:=m) (gl.mono T) ((own.vis K9).mono K9 l2) (aF _) (by omega) (by omega) (by omega) hs (by omega) ?_
  intro A3 c3 h3 l3 ao
  refine ⟨_,_,_,rfl,?_⟩
  refine A3g ((F.vis K9).mono K9 l3) (by omega) (by omega) ?_
  intro A4 c4 h4 l4 ak ae
  refine ⟨_,_,_,rfl,l4,?_⟩
  have aj:=B0 T (B0 l3 l4)
  rw [aL C p] at ae ak ⊢
  refine Hx (m:=m) (gl.mono aj) ae ak (by omega) (by omega) (by omega) (fun i Z=>?_) (by omega) ?_
  ·have av:i/C<p:=cF (by rw [aL];exact Z)
   exact hs2 _ (Bj (dK i (show 0<C by omega)) av)
  intro A5 c5 h5 l5 Q
  have am:bG (VQr C) h5 A5 p (fun j i=>mtx (rvs lb) p i j):=by
   obtain ⟨vs,sv,el,rr⟩:=Q
   refine ⟨vs,sv,el,fun j hj=>?_⟩
   obtain ⟨w,e1,hw⟩:=rr j hj
   refine ⟨w,e1,?_⟩
   have:=VQr.congr (f':=fun i=>mtx (rvs lb) p i j) hw fun i Z=>?_
   ·exact this
   ·show rvs lb ((j*C+i)%C*p+(j*C+i)/C)=rvs lb (i*p+j)
    rw [cO (j*C) i,bI,cH Z,bZ _ _ (by omega),bH Z,aN]
  clear Q
  refine ⟨_,_,_,rfl,l5,?_⟩
  have af:=B0 aj l5
  have ar:=B0 l4 l5
  have ap:B6 ((rows:Int)*(p:Int))=((rows*p:Nat):Int):=by rw [<- aV];exact Z2 (by omega)
  rw [ap]
  refine L8 B25 (zx:=Ao) rfl (by omega) (by omega) (by omega) (by omega) ?_
  intro b hb
  simp only [aH]
  have sz:∀ i j,i<rows->j<p->Sz (1+d*(2*m+1)) (sm C (fun t=>mtx (rvs la) C i t*mtx (rvs lb) p t j)):=fun i j Z hj=>(Sq (f:=fun t=>mtx (rvs la) C i t) (f2:=fun t=>mtx (rvs lb) p t j) (fun t H=>ms i t Z H) (fun t H=>ad t j H hj) C (aF _)).mono (by omega)
  refine ⟨_,_,_,rfl,fun L hp=>∃ (k:Nat) (g o:aG) (xs:List QV) (A':Option aJ) (c':Nat),k<=rows/\L=[.slice A' (k*p) c',I (k:Int)]/\h5.le g/\Sep hp g o/\OwnSl o K6 A' c' xs/\xs.length=k*p/\Row RQr g xs (k*p) (fun k=>sm C (fun j=>mtx (rvs la) C (k/p) j*mtx (rvs lb) p j (k%p))),fun L _=>rows-(iAt L 1).toNat,
   ⟨0,h5,Bh.put b _,[],some ⟨b,0,none⟩,rows*p,by omega,by rw [bM];rfl,B4 _,Y9 hb,Kg,by simp,by rw [bM];exact Row.nil⟩,?_⟩
  rintro rA rn rc z hp ⟨k,g,o,xs,A',c',hk,eL,lg,s,ow,ai,rr⟩
  obtain ⟨⟨rfl,rfl,rfl⟩,rfl⟩:=sI2 eL
  refine B7 (fun a2=>?_) (fun a3=>?_)
  ·have X:k<rows:=by omega
   have ah:(k+1)*p=k*p+p:=by rw [aK,aM]
   have a4:(k+1)*p<=rows*p:=aD _ X
   obtain ⟨a,v,ea,iv,c0,c1,au⟩:=(ao.mono (A3i C) (B0 ar lg)).vat X
   refine ⟨a,ea,by omega,by omega,_,_,_,_,_,_,_,B5 s.le c0,B5 s.le c1,B5 s.le au,?_⟩
   refine ⟨fun L hp=>∃ (j:Nat) (g' o:aG) (xs:List QV) (A':Option aJ) (c':Nat),j<=p/\L=[.slice A' (k*p+j) c',I (j:Int)]/\g.le g'/\Sep hp g' o/\OwnSl o K6 A' c' xs/\xs.length=k*p+j/\Row RQr g' xs (k*p+j) (fun k=>sm C (fun j=>mtx (rvs la) C (k/p) j*mtx (rvs lb) p j (k%p))),fun L _=>p-(iAt L 1).toNat,
    ⟨0,g,o,xs,rA,rc,by omega,rfl,B4 _,s,ow,ai,rr⟩,?_⟩
   rintro qA qn qc z a1 ⟨j,g2,o2,ys,A2,c2,hj,eL,G,s2,al,D,W⟩
   obtain ⟨⟨rfl,rfl,rfl⟩,rfl⟩:=sI2 eL
   refine B7 (fun ay=>?_) (fun az=>?_)
   ·have N:j<p:=by omega
    obtain ⟨a6,u,an,iu,d0,d1,d2⟩:=(am.mono (A3i C) (B0 lg G)).vat N
    refine ⟨a6,an,by omega,by omega,_,_,_,_,_,_,_,B5 s2.le d0,B5 s2.le d1,B5 s2.le d2,?_⟩
    refine s2.call (Xz (m:=m) (v:=v) (u:=u) (gl.mono (B0 af (B0 lg G))) (A3i C _ _ _ _ G iv) iu (by omega) (fun t H=>ms k t X H) (fun t H=>ad t j H N) hm1 (by omega) ?_)
    intro q g7 l7 iq h7 s7
    refine ⟨_,_,_,_,_,_,_,_,rfl,?_⟩
    refine O6 (ty:=U6) B25 s7 al D.symm (y:=q) rfl (by decide) (by rw [D];omega) (by rw [D];omega) ?_
    intro A8 c8 h8 g8 o8 l8 s8 aq _
    rw [D,wiS j (by omega)]
    refine ⟨⟨j+1,g8,o8,_,A8,c8,by omega,by rw [dN],B0 G (B0 l7 l8),s8,aq,by rw [aC,D];rfl,?_⟩,?_⟩
    ·have rB:=Row.push (R:=RQr) (g:=g8) (xs:=ys) (f:=fun k=>sm C (fun j=>mtx (rvs la) C (k/p) j*mtx (rvs lb) p j (k%p))) (by rw [D];exact W.mono K9 (B0 l7 l8)) (w:=q) (by
      show RQ g8 q (sm C (fun t=>mtx (rvs la) C (ys.length/p) t*mtx (rvs lb) p t (ys.length%p)))
      rw [D,cO (k*p) j,bI,cH N,bZ _ _ (by omega),bH N,aN]
      exact K9 _ _ _ _ l8 iq)
     rw [aC,D] at rB
     exact rB
    ·show p-((j+1:Nat):Int).toNat<p-(j:Int).toNat
     omega
   ·have:j=p:=by omega
    subst this
    rw [wiS k (by omega),<- ah]
    rw [<- ah] at D W
    refine ⟨⟨k+1,g2,o2,ys,qA,qc,by omega,rfl,B0 lg G,s2,al,D,W⟩,?_⟩
    show rows-((k+1:Nat):Int).toNat<rows-(k:Int).toNat
    omega
  ·have:k=rows:=by omega
   subst this
   have ag:=B0 af (B0 lg s.le)
   have rq:bG RQr hp rA (k*p) (fun t=>sm C (fun j=>mtx (rvs la) C (t/p) j*mtx (rvs lb) p j (t%p))):=⟨xs,ow.slF s.ole,ai,rr.mono K9 s.le⟩
   refine A6c (m:=1+d*(2*m+1)) (gl.mono ag) rq (by omega) (fun t H=>?_) (by omega) ?_
   ·exact sz _ _ (cF (by rw [aL];exact H)) (dK t (show 0<p by omega))
   intro b9 h9 O
   exact ⟨_,_,_,_,_,rfl,aa _ _ h9 (B0 ag O.le) (O.vis L7)⟩
 ·refine Es (gl.mono J) (rb.mono L7 J) hn2 hl2 (fun C p E b2 S F=>⟨_,_,_,_,rfl,Pq (V (fun x=>M x.1) S (B0 J F.le))⟩) (fun _ S l2=>⟨_,_,_,_,rfl,Pq (V (fun x=>M x.1) S (B0 J l2))⟩)
def B3b(gl:Gl h)(ra:bG SSr h A n la)(rb:bG SSr h B n2 lb)(hn:n<=1000000)(hn2:n2<=1000000)(hl:LL n la)(hl2:LL n2 lb)(hs:∀ i,i<n->Sz m (rv (la i)))(hs2:∀ i,i<n2->Sz m (rv (lb i)))(hm1:1<=m)(hm:2*(1+64*(2*m+1)+2*m)+14<=40000000)
 (hK:∀ o,C7b r c n la r2 c2 n2 lb o->∀ A' cap' h',h.le h'->bG SSr h' A' o.n o.f->K (.tuple #[Yo o.r o.c A' o.n cap',I o.e]) h'):aX prog A8s #[Yo r c A n cap,Yo r2 c2 B n2 cap2] h K:=
 B05 gl ra rb hn hn2 hl hl2 hs hs2 hm1 (d:=64) (fun _ _ mk=>mk.c2) hm hK
end
def C65(r c:Int)(n:Nat)(la:Nat->List UInt8)(n2:Nat)(lx:Nat->List UInt8)(o:VOut):Prop:=
 (¬ (Mx r c n la/\∀ i,i<n2->cW (lx i))/\o=noV 1)\/(Mx r c n la/\(∀ i,i<n2->cW (lx i))/\(n2:Int)≠r/\o=noV 4)\/(∃ rows cols,MOk r c n la rows cols/\(∀ i,i<n2->cW (lx i))/\(n2:Int)=r/\((Ha (rvs la) (rvs lx) rows cols/\o=⟨cols,fun i=>I8 (A2x (rvs la) (rvs lx) rows cols i),0⟩)\/(¬ Ha (rvs la) (rvs lx) rows cols/\o=noV 8)))
def C7k(r c:Int)(n:Nat)(la:Nat->List UInt8)(n2:Nat)(lx:Nat->List UInt8)(e:Int)(ny:Nat)(fy:Nat->List UInt8):Prop:=
 (e≠8/\ny=0)\/(e=8/\∃ rows cols,MOk r c n la rows cols/\(∀ i,i<n2->cW (lx i))/\(n2:Int)=r/\¬ Ha (rvs la) (rvs lx) rows cols/\ny=rows/\fy=fun i=>I8 (A2x (A2a (rvs la) (rvs lx) rows cols) (B2o cols) (cols+1) rows i))
def Nj{E b:Nat->Rat}{rows cols m nq:Nat}(hs:∀ i,i<rows*cols->Sz m (E i))(hb:∀ i,i<rows->Sz m (b i))(hm:1<=m)(hnq:(Nk E b rows cols).cs.length<=nq):∀ j,Sz (7^nq*m) (A2x E b rows cols j):=
 C0t (m:=m) (A0e nq m hm) (C1k (n:=rows) (w:=cols+1) (c:=cols) (Yn (A7w hs hb)) hm (by omega) hnq (aF _)).1
def B2m{E b:Nat->Rat}{rows cols m:Nat}(hr:1<=rows)(hs:∀ i,i<rows*cols->Sz m (E i))(hb:∀ i,i<rows->Sz m (b i)):∀ i,i<(cols+1)*rows->Sz m (A2a E b rows cols i):=by
 intro i a
 rw [aK,aM] at a
 unfold A2a
 by_cases e:i<cols*rows
 ·rw [iP e]
  refine hs _ (Bj (dK i (by omega)) (cF (by rw [aL];exact e)))
 ·rw [iN e];exact hb _ (by omega)
def B2n{cols m:Nat}(hm:1<=m):∀ i,i<cols+1->Sz m (B2o cols i):=by
 intro i _
 unfold B2o
 split
 ·exact ⟨ZB.one hm,ZB.one hm⟩
 ·exact Sz.zero hm
section
variable {h:aG} {K:VP} {A B:Option aJ} {n n2 cap cap2 m:Nat} {r c:Int} {la lx:Nat->List UInt8}
def A3h(gl:Gl h)(ra:bG SSr h A n la)(rx:bG SSr h B n2 lx)(hn:n<=1000000)(hn2:n2<=1000000)(hl:LL n la)(hl2:LL n2 lx)(hs:∀ i,i<n->Sz m (rv (la i)))(hs2:∀ i,i<n2->Sz m (rv (lx i)))(hm1:1<=m)
 (hb1:∀ rows cols,MOk r c n la rows cols->∃ nq nk,(∀ j,j<=cols->(elE (H0 (rvs la) (rvs lx) cols) rows (cols+1) j).cs.length<=nq)/\(∀ j,j<=rows->(elE (H0 (A2a (rvs la) (rvs lx) rows cols) (B2o cols) rows) (cols+1) (rows+1) j).cs.length<=nk)/\2*(3^nq*bnd (cols+1) m)+1<=40000000/\2*(3^nk*bnd (rows+1) m)+1<=40000000/\7^nq*m<=40000000/\7^nk*m<=40000000)
 (hK:∀ o,C65 r c n la n2 lx o->∀ ny fy,C7k r c n la n2 lx o.e ny fy->∀ A' cap' A2 cap2' h',h.le h'->bG SSr h' A' o.n o.f->bG SSr h' A2 ny fy->K (.tuple #[.slice A' o.n cap',.slice A2 ny cap2',I o.e]) h'):aX prog A17 #[Yo r c A n cap,.slice B n2 cap2] h K:=by
 refine B5y _ _ _ _ _ _ _ _ ?_
 unfold C0a
 have F:¬ (Mx r c n la/\∀ i,i<n2->cW (lx i))->∀ h',h.le h'->K (.tuple #[.slice none 0 0,.slice none 0 0,I 1]) h':=fun hx h' l=>hK (noV 1) (.inl ⟨hx,rfl⟩) 0 (fun _=>[]) (.inl ⟨by decide,rfl⟩) none 0 none 0 h' l RowV.nil RowV.nil
 refine Es gl ra hn hl (fun rows cols mk b1 h1 own=>?_) (fun g h1 u=>⟨_,_,_,_,rfl,?_⟩)
 ·have u:=own.le
  refine ⟨_,_,_,_,rfl,Ah (gl.mono u) (rx.mono L7 u) hn2 hl2 (fun a b2 C d=>⟨_,_,_,_,rfl,Br.nt (Br.nt ?_)⟩) (fun g C L=>⟨_,_,_,_,rfl,Br.nt (Pq (F (fun x=>g x.2) C (B0 u L)))⟩)⟩
  have L:=d.le
  have q:=B0 u L
  refine J4 (fun e=>hK (noV 4) (.inr (.inl ⟨⟨_,_,mk⟩,a,e,rfl⟩)) 0 (fun _=>[]) (.inl ⟨by decide,rfl⟩) none 0 none 0 C q RowV.nil RowV.nil) (fun e=>?_)
  have O:=fun x=>hK ⟨cols,fun i=>I8 (A2x (rvs la) (rvs lx) rows cols i),0⟩ (.inr (.inr ⟨rows,cols,mk,a,e,.inl ⟨x,rfl⟩⟩)) 0 (fun _=>[]) (.inl ⟨show (0:Int)≠8 by decide,rfl⟩)
  have ac:=fun w=>hK (noV 8) (.inr (.inr ⟨rows,cols,mk,a,e,.inr ⟨w,rfl⟩⟩)) rows (fun i=>I8 (A2x (A2a (rvs la) (rvs lx) rows cols) (B2o cols) (cols+1) rows i)) (.inr ⟨rfl,rows,cols,mk,a,e,w,rfl,rfl⟩)
  obtain ⟨nq,nk,u1,u2,k1,k2,k3,k4⟩:=hb1 rows cols mk
  have:=mk.r1;have:=mk.r2;have:=mk.c1;have:=mk.c2
  obtain rfl:n2=rows:=by have:=mk.er;omega
  obtain ⟨rfl,rfl,_,_,_,_,rfl,_⟩:=id mk
  have ak:n2*cols<=64*64:=bB (by omega) (by omega)
  have hX:=Nj hs hs2 hm1 (u1 cols (aF _))
  refine Nw (nq:=nq) (E:=rvs la) (b:=rvs lx) (m:=m) (gl.mono q) ((own.vis K9).mono K9 L) (aF _) (d.vis K9) (aF _) (by omega) (by omega) (by omega) (by omega) hs hs2 u1 k1 (fun R b3 h3 D rq=>⟨_,_,_,_,rfl,?_⟩) (fun g h3 D=>⟨_,_,_,_,rfl,?_⟩)
  ·refine Id (m:=7^nq*m) (gl.mono (B0 q D)) rq (by omega) (fun i _=>hX i) k3 ?_
   intro b4 h4 z
   exact ⟨_,_,_,rfl,O R _ _ none 0 h4 (B0 q (B0 D z.le)) (z.vis L7) RowV.nil⟩
  ·refine Nv ((own.vis K9).mono K9 (B0 L D)) (by omega) (by omega) ?_
   intro A4 c4 h4 g4 o4 xs l4 s4 Q p S
   refine ⟨_,_,_,rfl,?_⟩
   have ah:=B0 q (B0 D l4)
   obtain ⟨ys,sy,s,qy⟩:=(d.vis K9).mono K9 (B0 D l4)
   refine OwnSl.app (ty:=U6) B25 s4 Q p.symm s.symm (by rintro rfl;simp at s;omega) (sy.mono s4.le) (by rw [p,s];omega) (by rw [p,s];omega) ?_
   intro A5 c5 h5 g5 o5 T M H _
   refine ⟨_,_,_,rfl,?_⟩
   have W:n2*cols+n2=(cols+1)*n2:=by rw [aK,aM,aL cols n2]
   have J:(xs++ys).length=(cols+1)*n2:=by rw [aC,p,s,W]
   have r5:bG RQr h5 A5 ((cols+1)*n2) (A2a (rvs la) (rvs lx) n2 cols):=by
    refine ⟨xs++ys,H.slF M.ole,J,?_⟩
    rw [<- W]
    refine Row.app p (((S.mono K9 T).mono K9 M.le).congr fun k hk=>?_) (((qy.mono K9 T).mono K9 M.le).congr fun k hk=>?_)
    ·unfold A2a
     rw [iP (by rw [aL];exact hk)]
    ·unfold A2a
     rw [aL cols n2,iN (by omega),cM]
   have ad:(cols+1)*n2<=c5:=by have:=H.1;omega
   have ae:=B0 ah (B0 T M.le)
   have aj:C.le h5:=B0 D (B0 l4 (B0 T M.le))
   rw [p,W]
   clear s4 Q S M H qy sy
   have ew:B6 ((cols:Int)+1)=((cols+1:Nat):Int):=B8 (by omega) (by omega)
   rw [ew]
   refine L8 B25 (zx:=Ao) rfl (by omega) (by omega) (by omega) (by omega) ?_
   intro b6 aa
   simp only [aH]
   have s6:=(Sep.refl h5).new aa (.cells ((aO (cols+1) Ao).flatMap enc).toArray K6)
   refine ⟨_,_,_,rfl,s6.call (A5o ⟨by omega,by omega⟩ ?_)⟩
   intro w7 g7 X i7 h7 s7
   have one:((1:Int):Rat)=1:=rfl
   rw [one] at i7
   refine ⟨_,_,_,_,_,_,_,_,rfl,s6.le_le s7 X,_,rfl,by omega,by omega,?_⟩
   refine S0 Ti (y:=w7) rfl s7 RowX.mk (i:=cols) (by rw [aP];omega) ?_
   intro h8 o8 x8 al V ai
   have G:=B0 ae (B0 X V.le)
   have Z:=B0 X V.le
   have r0:Row RQr g7 (aO (cols+1) Ao) (cols+1) (fun _=>0):=fun i hi=>⟨Ao,by rw [cX,iP hi],RQ.zero⟩
   have r8:bG RQr h8 (some ⟨b6,0,none⟩) (cols+1) (B2o cols):=⟨_,ai.rowB.slF V.ole,by rw [cK,aP],((r0.upd (by rw [aP];omega) i7).mono K9 V.le)⟩
   have af:=Nj (B2m (by omega) hs hs2) (B2n (cols:=cols) hm1) hm1 (u2 n2 (aF _))
   refine Nw (nq:=nk) (E:=A2a (rvs la) (rvs lx) n2 cols) (b:=B2o cols) (rows:=cols+1) (cols:=n2) (m:=m) (gl.mono G) (r5.mono K9 Z) ad r8 (aF _) (by omega) (by omega) (by omega) (by omega) (B2m (by omega) hs hs2) (B2n hm1) u2 k2 (fun R b9 h9 l9 rq=>⟨_,_,_,_,rfl,?_⟩) (fun N _ _=>absurd (C3g g) N)
   refine Id (m:=7^nk*m) (gl.mono (B0 G l9)) rq (by omega) (fun i _=>af i) k4 ?_
   intro am ag t
   exact ⟨_,_,_,rfl,ac g none 0 _ _ ag (B0 G (B0 l9 t.le)) RowV.nil (t.vis L7)⟩
 ·refine Ah (gl.mono u) (rx.mono L7 u) hn2 hl2 (fun a b2 C d=>⟨_,_,_,_,rfl,Pq (F (fun x=>g x.1) C (B0 u d.le))⟩) (fun _ C L=>⟨_,_,_,_,rfl,Pq (F (fun x=>g x.1) C (B0 u L))⟩)
end
end Go.Proofs.YtmbfcbbkbefgfaaGreatDoor
namespace Go.Proofs.YtmbfcbbkbefgfaaGreatDoor
set_option maxRecDepth 20000
def ldA(A:Nat->Nat->Rat):Nat->Nat->Nat->Rat
 | 0=>A
 | k+1=>fun i j=>if ldA A k k k=0 then ldA A k i j else ldA A k i j-ldA A k i k*(ldA A k k j/ldA A k k k)
def C7l(n:Nat)(A:Nat->Nat->Rat):Prop:=∀ i j,i<n->j<n->A i j=A j i
structure LdR (n k:Nat) (A:Nat->Nat->Rat) (s:ES):Prop where
 len:s.cs.length<=k
 low:∀ i j,k<=i->i<n->j<n->s.R i j=ldA A k i j
 zero:∀ i j,s.cs.length<=i->i<k->j<n->s.R i j=0
def qf(n:Nat)(A:Nat->Nat->Rat)(x:Nat->Rat):Rat:=sm n fun i=>x i*sm n fun j=>A i j*x j
end Go.Proofs.YtmbfcbbkbefgfaaGreatDoor
namespace Go.Proofs.YtmbfcbbkbefgfaaGreatDoor
set_option maxRecDepth 20000
def B6w{k a:Nat}(ha:a<=k)(t:Nat->Rat):sm (k+1) t=t a+sm k (fun i=>t (rhx a i)):=by
 rw [B95 ha]
 have e:sm (k+1) t=sm (k+1) (fun i=>if i=a then t a else 0)+sm (k+1) (fun i=>if i=a then 0 else t i):=by
  rw [<- Uj]
  refine D6 fun i _=>?_
  by_cases c:i=a
  ·rw [iP c,iP c,c,bW]
  ·rw [iN c,iN c,dQ]
 rw [e,A2v (show a<k+1 by omega) fun i _ c=>iN c,iP rfl]
def C17:∀ (L:List (Nat->Rat)) (n:Nat),L.length<n->∃ x:Nat->Rat,(∃ j,j<n/\x j≠0)/\∀ f∈L,sm n (fun j=>f j*x j)=0:=by
 intro L
 generalize hm:L.length=m
 induction m generalizing L with
 | zero=>
  intro n s
  have:L=[]:=List.length_eq_zero_iff.1 hm
  subst this
  exact ⟨fun _=>1,⟨0,s,by decide +kernel⟩,fun f A=>by cases A⟩
 | succ m ih=>
  intro n s
  match L,hm with
  | f::L,hm=>
   have t:L.length=m:=by simpa using hm
   by_cases h:∀ j,j<n->f j=0
   ·obtain ⟨x,B,d⟩:=ih L t n (by omega)
    refine ⟨x,B,fun g r=>?_⟩
    rcases List.mem_cons.1 r with e|e
    ·rw [e];exact Fx fun j o=>by rw [h j o,bV]
    ·exact d g e
   ·have:∃ a,a<n/\f a≠0:=bK fun c=>h fun j o=>bK fun w=>c ⟨j,o,w⟩
    obtain ⟨a,E,D⟩:=this
    obtain ⟨k,rfl⟩:∃ k,n=k+1:=⟨n-1,by omega⟩
    obtain ⟨y,⟨j,o,C⟩,d⟩:=ih (L.map fun g=>fun j=>g (rhx a j)-g a/f a*f (rhx a j)) (by simpa using t) k (by omega)
    have l:∀ i,(if rhx a i<a then rhx a i else rhx a i-1)=i:=fun i=>by unfold rhx;repeat' split
                                                                       all_goals omega
    refine ⟨fun b=>if b=a then-(sm k (fun i=>f (rhx a i)*y i)/f a) else y (if b<a then b else b-1),⟨rhx a j,A36 o,?_⟩,fun g r=>?_⟩
    ·show (if rhx a j=a then _ else _)≠(0:Rat)
     rw [iN (B2k a j),l];exact C
    ·rw [B6w (show a<=k by omega)]
     have p:sm k (fun i=>g (rhx a i)*(if rhx a i=a then-(sm k (fun i=>f (rhx a i)*y i)/f a) else y (if rhx a i<a then rhx a i else rhx a i-1)))=sm k (fun i=>g (rhx a i)*y i):=D6 fun i _=>by rw [iN (B2k a i),l]
     show g a*(if a=a then _ else _)+sm k (fun i=>g (rhx a i)*(if rhx a i=a then _ else _))=0
     rw [iP rfl,p]
     rcases List.mem_cons.1 r with e|e
     ·rw [e]
      generalize sm k (fun i=>f (rhx a i)*y i)=q
      clear p h ih d
      grind
     ·have z:=d _ (List.mem_map.2 ⟨g,e,rfl⟩)
      have u:sm k (fun i=>(g (rhx a i)-g a/f a*f (rhx a i))*y i)=sm k (fun i=>g (rhx a i)*y i)-g a/f a*sm k (fun i=>f (rhx a i)*y i):=by
       rw [dB,<- He,<- A2w,<- Uj]
       exact D6 fun i _=>by grind
      rw [u] at z
      generalize sm k (fun i=>f (rhx a i)*y i)=q at *
      generalize sm k (fun i=>g (rhx a i)*y i)=q' at *
      clear p h ih d u
      grind
def ev(n:Nat)(f x:Nat->Rat):Rat:=sm n fun j=>f j*x j
structure Diag (n:Nat) (A:Nat->Nat->Rat) (d:Nat->Rat) (F:Nat->Nat->Rat):Prop where
 val:∀ x,qf n A x=sm n fun m=>d m*(ev n (F m) x*ev n (F m) x)
 inj:∀ x,(∀ m,m<n->ev n (F m) x=0)->∀ j,j<n->x j=0
structure PD (n k:Nat) (A0:Nat->Nat->Rat) (d:Nat->Rat) (F A:Nat->Nat->Rat):Prop where
 val:∀ x,qf n A0 x=sm k (fun m=>d m*(ev n (F m) x*ev n (F m) x))+qf n A (fun i=>ev n (F i) x)
 inj:∀ x,(∀ m,m<n->ev n (F m) x=0)->∀ j,j<n->x j=0
 zero:∀ i j,i<n->j<n->i<k\/j<k->A i j=0
 symm:C7l n A
end Go.Proofs.YtmbfcbbkbefgfaaGreatDoor
namespace Go.Proofs.YtmbfcbbkbefgfaaGreatDoor
set_option maxRecDepth 20000
structure TE (n k:Nat) (R:Nat->Nat->Rat) (M:Nat->Nat->Int) (S:Nat->Rat) (last:Int):Prop where
 elim:∃ B R',(∀ i j,i<n->j<n->Wh (B i j))/\Elim n n B R' (fun m=>m) k/\(last:Rat)=dp B (fun m=>m) k/\∀ i j,k<=i->i<n->j<n->R' i j=S i*R i j
 ne:last≠0
 val:∀ i j,k<=i->i<n->j<n->(M i j:Rat)=last*(S i*R i j)
 scale:∀ i,k<=i->i<n->0<S i
end Go.Proofs.YtmbfcbbkbefgfaaGreatDoor
namespace Go.Proofs.YtmbfcbbkbefgfaaGreatDoor
set_option maxRecDepth 20000
def C3b{n:Nat}(p:Nat->Rat)(q:Rat):sm n (fun t=>p t*q)=(sm n p)*q:=by
 rw [aU,<- He]
 exact D6 fun t _=>aU _ _
end Go.Proofs.YtmbfcbbkbefgfaaGreatDoor
namespace Go.Proofs.YtmbfcbbkbefgfaaGreatDoor
set_option maxRecDepth 20000
def prC(M:Nat->Nat->Rat)(w:Nat->Rat):Nat->Nat->Rat:=fun i j=>M j i/w i
def prP(m:Nat)(M:Nat->Nat->Rat)(w:Nat->Rat):Nat->Nat->Rat:=fun i j=>sm m fun t=>M i t*prC M w t j
def prR(m:Nat)(M:Nat->Nat->Rat)(b x:Nat->Rat):Nat->Rat:=fun i=>b i-sm m fun t=>M i t*x t
def prZ(n:Nat)(M:Nat->Nat->Rat)(w x y:Nat->Rat):Nat->Rat:=fun i=>x i+sm n fun j=>prC M w i j*y j
def B96{n m:Nat}(f:Nat->Rat)(C:Nat->Nat->Rat)(y:Nat->Rat):(sm m fun t=>f t*sm n fun j=>C t j*y j)=sm n fun j=>(sm m fun t=>f t*C t j)*y j:=by
 have e:(sm m fun t=>f t*sm n fun j=>C t j*y j)=sm m fun t=>sm n fun j=>f t*C t j*y j:=D6 fun t _=>by
  rw [<- He]
  exact D6 fun j _=>by grind
 rw [e,A5u]
 exact D6 fun j _=>C3b _ _
end Go.Proofs.YtmbfcbbkbefgfaaGreatDoor
namespace Go.Proofs.YtmbfcbbkbefgfaaGreatDoor
set_option maxRecDepth 20000
def B98{n w c q:Nat}{M P Q:Nat->Nat->Rat}(hc:c<=w)(hM:∀ i j,i<n->j<c->M i j=sm q fun t=>P i t*Q t j):(ecE M n c).cs.length<=q:=by
 refine bK fun u=>?_
 have h:=EqA.run (n:=n) (w:=w) M c hc
 have H:=h.len
 obtain ⟨T,J⟩:=h.comb
 obtain ⟨B,E,_⟩:=h.elim
 have p:=h.lt
 change ¬ (A86 n ⟨M,[],1⟩ c).cs.length<=q at u
 generalize A86 n ⟨M,[],1⟩ c=s at *
 obtain ⟨x,⟨a,b,D⟩,z⟩:=C17 ((List.range q).map fun t m=>Q t (s.cs.getD m 0)) s.cs.length (by rw [dI,List.length_range];omega)
 have k:∀ t,t<q->sm s.cs.length (fun m=>Q t (s.cs.getD m 0)*x m)=0:=fun t g=>z _ (List.mem_map.2 ⟨t,List.mem_range.2 g,rfl⟩)
 have f:∀ m,m<s.cs.length->s.cs.getD m 0<c:=fun m d=>by
  refine p _ ?_
  rw [aR,aI d]
  exact List.getElem_mem d
 have y:sm s.cs.length (fun m=>s.R a (s.cs.getD m 0)*x m)=x a:=by
  rw [A2v b fun m d r=>by rw [E.piv a m b d,iN (fun e=>r e.symm),bV],E.piv a a b b,iP rfl,cT]
 have A:sm s.cs.length (fun m=>s.R a (s.cs.getD m 0)*x m)=sm s.cs.length fun m=>(sm n fun l=>T a l*M l (s.cs.getD m 0))*x m:=D6 fun m d=>by rw [J a _ (by omega) (by have:=f m d;omega)]
 have C:(sm s.cs.length fun m=>(sm n fun l=>T a l*M l (s.cs.getD m 0))*x m)=sm n fun l=>T a l*sm s.cs.length fun m=>M l (s.cs.getD m 0)*x m:=(B96 (fun l=>T a l) (fun l m=>M l (s.cs.getD m 0)) x).symm
 have F:∀ l,l<n->(sm s.cs.length fun m=>M l (s.cs.getD m 0)*x m)=0:=fun l o=>by
  have G:(sm s.cs.length fun m=>M l (s.cs.getD m 0)*x m)=sm s.cs.length fun m=>(sm q fun t=>P l t*Q t (s.cs.getD m 0))*x m:=D6 fun m d=>by rw [hM l _ o (f m d)]
  rw [G,<- B96 (fun t=>P l t) (fun t m=>Q t (s.cs.getD m 0)) x]
  exact Fx fun t g=>by rw [k t g,aY]
 rw [A,C,Fx fun l o=>by rw [F l o,aY]] at y
 exact D y.symm
def prE(m n:Nat)(M:Nat->Nat->Rat)(w:Nat->Rat):Nat->Rat:=fun k=>prP m M w (k/n) (k%n)
def A68{m n:Nat}(M:Nat->Nat->Rat)(w:Nat->Rat){i j:Nat}(hj:j<n):mtx (prE m n M w) n i j=prP m M w i j:=by
 obtain ⟨b,a⟩:=dm1 (i:=i) hj
 show prP m M w ((i*n+j)/n) ((i*n+j)%n)=_
 rw [b,a]
def A3b{m n j:Nat}(M:Nat->Nat->Rat)(w r:Nat->Rat)(hj:j<=n):(elE (H0 (prE m n M w) r n) n (n+1) j).cs.length<=m/\(elE (H0 (prE m n M w) r n) n (n+1) j).cs.length<=n:=by
 refine ⟨B98 (w:=n+1) (P:=M) (Q:=prC M w) (by omega) fun i k b a=>?_,dD (Lv _ n j).1 hj⟩
 rw [Hw _ _ (by omega),A68 M w (by omega)]
 rfl
def C14{m n j:Nat}(M:Nat->Nat->Rat)(w r:Nat->Rat)(hj:j<=n):(elE (H0 (A2a (prE m n M w) r n n) (B2o n) n) (n+1) (n+1) j).cs.length<=m+1/\(elE (H0 (A2a (prE m n M w) r n n) (B2o n) n) (n+1) (n+1) j).cs.length<=n:=by
 refine ⟨B98 (w:=n+1) (P:=fun i t=>if i<n then (if t<m then prC M w t i else 0) else (if t<m then 0 else 1)) (Q:=fun t k=>if t<m then M k t else r k) (by omega) fun i k d c=>?_,dD (Lv _ (n+1) j).1 hj⟩
 rw [Hw _ _ (by omega)]
 by_cases e:i<n
 ·rw [A89 _ _ e (by omega),A68 M w e]
  have b:(sm (m+1) fun t=>(if i<n then (if t<m then prC M w t i else 0) else (if t<m then 0 else 1))*(if t<m then M k t else r k))=(sm m fun t=>(if i<n then (if t<m then prC M w t i else 0) else (if t<m then 0 else 1))*(if t<m then M k t else r k))+(if i<n then (if m<m then prC M w m i else 0) else (if m<m then 0 else 1))*(if m<m then M k m else r k):=rfl
  rw [b,iP e,iN (aS m),iN (aS m),bV,bW]
  unfold prP
  exact D6 fun t a=>by rw [iP e,iP a,iP a];exact aU _ _
 ·have:i=n:=by omega
  subst this
  have b:(sm (m+1) fun t=>(if i<i then (if t<m then prC M w t i else 0) else (if t<m then 0 else 1))*(if t<m then M k t else r k))=(sm m fun t=>(if i<i then (if t<m then prC M w t i else 0) else (if t<m then 0 else 1))*(if t<m then M k t else r k))+(if i<i then (if m<m then prC M w m i else 0) else (if m<m then 0 else 1))*(if m<m then M k m else r k):=rfl
  rw [b,A38,iN e,iN (aS m),iN (aS m),cT,Fx fun t a=>by rw [iN e,iP a,bV],dQ]
section
variable {m n s k Y:Nat} {M:Nat->Nat->Rat} {w b x y:Nat->Rat}
def Ur(hs1:1<=s)(hM:∀ i j,i<n->j<m->Sz s (M i j))(hw:∀ t,t<m->Sz s (w t)):∀ t i,t<m->i<n->Sz (2*s) (prC M w t i):=fun t i a b=>((hM i t b a).div (hw t a) hs1).mono (by omega)
def C3k(hs1:1<=s)(hM:∀ i j,i<n->j<m->Sz s (M i j))(hw:∀ t,t<m->Sz s (w t)):∀ i j,i<n->j<n->Sz (1+m*(2*(2*s)+1)) (prP m M w i j):=fun i j b c=>
 Sq (m:=2*s) (w:=m) (f:=fun t=>M i t) (f2:=fun t=>prC M w t j) (fun t a=>(hM i t b a).mono (by omega)) (fun t a=>Ur hs1 hM hw t j a c) m (aF m)
def B2t(hs1:1<=s)(hM:∀ i j,i<n->j<m->Sz s (M i j))(hw:∀ t,t<m->Sz s (w t)):∀ k,k<n*n->Sz (1+m*(2*(2*s)+1)) (prE m n M w k):=fun k b=>by
 have a:k/n<n:=cF b
 exact C3k hs1 hM hw _ _ a (dK k (Nat.lt_of_le_of_lt (bU _) a))
def C3j(hsk:s<=k)(hM:∀ i j,i<n->j<m->Sz s (M i j))(hb:∀ i,i<n->Sz k (b i))(hx:∀ t,t<m->Sz k (x t)):∀ i,i<n->Sz (1+m*(2*k+1)+k+1) (prR m M b x i):=fun i a=>by
 have d:=Sq (m:=k) (w:=m) (f:=fun t=>M i t) (f2:=x) (fun t c=>(hM i t a c).mono hsk) hx m (aF m)
 exact ((hb i a).sub d).mono (by omega)
def C3i(hs1:1<=s)(hsY:2*s<=Y)(hM:∀ i j,i<n->j<m->Sz s (M i j))(hw:∀ t,t<m->Sz s (w t))(hx:∀ t,t<m->Sz k (x t))(hy:∀ j,j<n->Sz Y (y j)):∀ i,i<m->Sz (1+n*(2*Y+1)+k+1) (prZ n M w x y i):=fun i a=>by
 have c:=Sq (m:=Y) (w:=n) (f:=fun j=>prC M w i j) (f2:=y) (fun j b=>(Ur hs1 hM hw i j a b).mono hsY) hy n (aF n)
 exact ((hx i a).add c).mono (by omega)
def B7a{sx se nq:Nat}(hs1:1<=s)(hM:∀ i j,i<n->j<m->Sz s (M i j))(hw:∀ t,t<m->Sz s (w t))(hx:∀ t,t<m->Sz sx (x t))(q0:m<=nq\/n<=nq)(q1:2*s<=se)(q2:1+m*(2*(2*s)+1)<=se)(q3:∀ i,i<n->Sz se (prR m M b x i)):∀ i,i<m->Sz (1+n*(2*(7^nq*se)+1)+sx+1) (prZ n M w x (A2x (prE m n M w) (prR m M b x) n n) i):=by
 have a:=Nj (b:=prR m M b x) (fun k c=>(B2t (m:=m) hs1 hM hw k c).mono q2) q3 (by omega) (nq:=nq) (by
  obtain ⟨f,d⟩:=A3b (m:=m) M w (prR m M b x) (aF n)
  rcases q0 with q0|q0
  ·exact dD f q0
  ·exact dD d q0)
 have e:se<=7^nq*se:=dT se (cZ (by decide))
 exact C3i hs1 (by omega) hM hw hx fun j _=>a j
end
structure CS where
 p':Int
 r':Int
 p:Int
 r:Int
def CS.next(s:CS)(a:Int):CS:=⟨s.p,s.r,s.p'+a*s.p,s.r'+a*s.r⟩
structure CSI (s:CS) (q x:Rat):Prop where
 det:s.p*s.r'-s.p'*s.r=1\/s.p*s.r'-s.p'*s.r= -1
 eq:q*(s.r*x+s.r')=s.p*x+s.p'
 r0:0<=s.r/\0<=s.r'/\0<s.r+s.r'
