/-
  Texts of this proof, merged by a program of ours: MatP, MatQ, MatS, MatB, MatC, MatD, MatE, RatG, MatF, MatG, MatH, MatI, MatR, MatJ, MatK, MatL, MatM.
-/
import Derived.Orders
import Derived.Test.YthilnfgnpdeofaaGreatDoorG17
import Derived.Test.YthilnfgnpdeofaaGreatDoorG27
import Derived.Test.YthilnfgnpdeofaaGreatDoorG28
import Derived.Test.YthilnfgnpdeofaaGreatDoorG21
/-
 Sums and determinants by columns,as far as elimination without fractions needs them.
-/
namespace Go.Proofs.YthilnfgnpdeofaaGreatDoor
def sm:Nat->(Nat->Rat)->Rat
 | 0,_=>0
 | n+1,f=>sm n f+f n
theorem sm_congr{n:Nat}{f g:Nat->Rat}(h:∀ i,i<n->f i=g i):sm n f=sm n g:=by
 induction n with
 | zero=>rfl
 | succ n ih=>rw [sm,sm,ih (fun i hi=>h i (by omega)),h n (by omega)]
theorem sm_zero{n:Nat}{f:Nat->Rat}(h:∀ i,i<n->f i=0):sm n f=0:=by
 induction n with
 | zero=>rfl
 | succ n ih=>rw [sm,ih (fun i hi=>h i (by omega)),h n (by omega)];exact Rat.add_zero 0
theorem sm_add(n:Nat)(f g:Nat->Rat):sm n (fun i=>f i+g i)=sm n f+sm n g:=by
 induction n with
 | zero=>simp only [sm];exact (Rat.add_zero 0).symm
 | succ n ih=>simp only [sm];rw [ih];grind
theorem sm_mul(n:Nat)(a:Rat)(f:Nat->Rat):sm n (fun i=>a*f i)=a*sm n f:=by
 induction n with
 | zero=>simp only [sm];grind
 | succ n ih=>simp only [sm];rw [ih];grind
theorem sm_neg(n:Nat)(f:Nat->Rat):sm n (fun i=> - f i)= - sm n f:=by
 induction n with
 | zero=>simp only [sm];grind
 | succ n ih=>simp only [sm];rw [ih];grind
theorem sm_swap(n m:Nat)(f:Nat->Nat->Rat):sm n (fun i=>sm m (f i))=sm m (fun j=>sm n (fun i=>f i j)):=by
 induction n with
 | zero=>rw [sm];exact (sm_zero fun _ _=>rfl).symm
 | succ n ih=>simp only [sm];rw [ih,<- sm_add]
theorem sm_one{n k:Nat}(hk:k<n){f:Nat->Rat}(h:∀ i,i<n->i≠k->f i=0):sm n f=f k:=by
 induction n with
 | zero=>omega
 | succ n ih=>
  rw [sm]
  by_cases e:k=n
  ·subst e;rw [sm_zero fun i hi=>h i (by omega) (by omega)];exact Rat.zero_add _
  ·rw [ih (by omega) fun i hi hne=>h i (by omega) hne,h n (by omega) (by omega)];exact Rat.add_zero _
def rhx(l i:Nat):Nat:=if i<l then i else i+1
theorem rhx_ne(l i:Nat):rhx l i≠l:=by unfold rhx;split<;>omega
theorem rhx_lt{l i k:Nat}(hi:i<k):rhx l i<k+1:=by unfold rhx;split<;>omega
theorem sm_rhx{k a:Nat}(ha:a<=k)(t:Nat->Rat):sm k (fun i=>t (rhx a i))=sm (k+1) (fun b=>if b=a then 0 else t b):=by
 induction k generalizing a with
 | zero=>
  show (0:Rat)=0+(if 0=a then 0 else t 0)
  rw [if_pos (by omega)];exact (Rat.add_zero 0).symm
 | succ k ih=>
  show sm k (fun i=>t (rhx a i))+t (rhx a k)=sm (k+1) (fun b=>if b=a then 0 else t b)+(if k+1=a then 0 else t (k+1))
  by_cases e:a=k+1
  ·rw [if_pos e.symm,Rat.add_zero]
   show sm k (fun i=>t (rhx a i))+t (rhx a k)=sm k (fun b=>if b=a then 0 else t b)+(if k=a then 0 else t k)
   rw [if_neg (by omega)]
   congr 1
   ·exact sm_congr fun i hi=>by rw [rhx,if_pos (by omega),if_neg (by omega)]
   ·rw [rhx,if_pos (by omega)]
  ·rw [ih (by omega),if_neg (fun x=>e x.symm)]
   congr 1
   rw [rhx,if_neg (by omega)]
def sg(n:Nat):Rat:=if n%2=0 then 1 else -1
def dt:Nat->(Nat->Nat->Rat)->Rat
 | 0,_=>1
 | k+1,X=>sm (k+1) fun l=>sg (k+l)*X k l*dt k (fun c r=>X c (rhx l r))
theorem dt_congr{k:Nat}: ∀ {X Y:Nat->Nat->Rat},(∀ c r,c<k->r<k->X c r=Y c r)->dt k X=dt k Y:=by
 induction k with
 | zero=>intros;rfl
 | succ k ih=>
  intro X Y h
  rw [dt,dt]
  refine sm_congr fun l hl=>?_
  rw [h k l (by omega) hl,ih fun c r hc hr=>h c (rhx l r) (by omega) (rhx_lt hr)]
def rc(X:Nat->Nat->Rat)(m:Nat)(y:Nat->Rat):Nat->Nat->Rat:=fun c r=>if c=m then y r else X c r
theorem rc_minor(X:Nat->Nat->Rat)(m:Nat)(y:Nat->Rat)(l:Nat):(fun c r=>rc X m y c (rhx l r))=rc (fun c r=>X c (rhx l r)) m (fun r=>y (rhx l r)):=by
 funext c r;unfold rc;split<;>rfl
theorem dt_add{k:Nat}: ∀ (X:Nat->Nat->Rat) {m:Nat} (_:m<k) (y z:Nat->Rat),dt k (rc X m fun r=>y r+z r)=dt k (rc X m y)+dt k (rc X m z):=by
 induction k with
 | zero=>intros;omega
 | succ k ih=>
  intro X m hm y z
  rw [dt,dt,dt,<- sm_add]
  refine sm_congr fun l hl=>?_
  by_cases e:m=k
  ·subst e
   have:∀ u:Nat->Rat,dt m (fun c r=>rc X m u c (rhx l r))=dt m (fun c r=>X c (rhx l r)):=fun u=>dt_congr fun c r hc _=>by rw [rc,if_neg (by omega)]
   rw [this,this,this]
   simp only [rc,if_true]
   grind
  ·rw [rc_minor,rc_minor,rc_minor,ih _ (by omega)]
   simp only [rc,if_neg (fun x:k=m=>e x.symm)]
   grind
theorem dt_smul{k:Nat}: ∀ (X:Nat->Nat->Rat) {m:Nat} (_:m<k) (a:Rat) (y:Nat->Rat),dt k (rc X m fun r=>a*y r)=a*dt k (rc X m y):=by
 induction k with
 | zero=>intros;omega
 | succ k ih=>
  intro X m hm a y
  rw [dt,dt,<- sm_mul]
  refine sm_congr fun l hl=>?_
  by_cases e:m=k
  ·subst e
   have:∀ u:Nat->Rat,dt m (fun c r=>rc X m u c (rhx l r))=dt m (fun c r=>X c (rhx l r)):=fun u=>dt_congr fun c r hc _=>by rw [rc,if_neg (by omega)]
   rw [this,this]
   simp only [rc,if_true]
   grind
  ·rw [rc_minor,rc_minor,ih _ (by omega)]
   simp only [rc,if_neg (fun x:k=m=>e x.symm)]
   grind
theorem dt_zero{k:Nat}(X:Nat->Nat->Rat){m:Nat}(hm:m<k):dt k (rc X m fun _=>0)=0:=by
 have:=dt_smul X hm 0 (fun _=>0)
 rw [Rat.zero_mul] at this
 simpa only [Rat.zero_mul] using this
theorem dt_sum{k:Nat}(X:Nat->Nat->Rat){m:Nat}(hm:m<k)(a:Nat->Rat)(Y:Nat->Nat->Rat):∀ n,dt k (rc X m fun r=>sm n fun t=>a t*Y t r)=sm n fun t=>a t*dt k (rc X m (Y t)):=by
 intro n
 induction n with
 | zero=>exact dt_zero X hm
 | succ n ih=>
  simp only [sm]
  rw [dt_add X hm,ih,dt_smul X hm]
theorem rc_self(X:Nat->Nat->Rat)(m:Nat):rc X m (X m)=X:=by
 funext c r;unfold rc;split
 ·rename_i e;rw [e]
 ·rfl
theorem dt_last2{k:Nat}(X:Nat->Nat->Rat)(h:∀ r,r<k+2->X k r=X (k+1) r):dt (k+2) X=0:=by
 let mn:Nat->Nat->Rat:=fun a b=>dt k (fun c r=>X c (if a<b then rhx a (rhx (b-1) r) else rhx b (rhx (a-1) r)))
 let G:Nat->Nat->Rat:=fun a b=>if a=b then 0 else if b<a then sg (a+b)*X (k+1) a*X (k+1) b*mn a b else-(sg (a+b)*X (k+1) a*X (k+1) b*mn a b)
 have hmn:∀ a b,mn a b=mn b a:=by
  intro a b
  show dt k _=dt k _
  refine dt_congr fun c r _ _=>?_
  by_cases h1:a<b
  ·rw [if_pos h1,if_neg (by omega)]
  ·by_cases h2:b<a
   ·rw [if_neg h1,if_pos h2]
   ·have:a=b:=by omega
    subst this;rfl
 have hG:∀ a b,G b a= - G a b:=by
  intro a b
  show (if b=a then 0 else if a<b then _ else _)= - (if a=b then 0 else if b<a then _ else _)
  by_cases e:a=b
  ·rw [if_pos e,if_pos e.symm];grind
  ·rw [if_neg e,if_neg (fun x=>e x.symm)]
   have hc:=hmn a b
   by_cases h1:a<b
   ·rw [if_pos h1,if_neg (by omega),Nat.add_comm b a];grind
   ·rw [if_neg h1,if_pos (by omega),Nat.add_comm b a];grind
 have main:dt (k+2) X=sm (k+2) fun a=>sm (k+2) fun b=>G a b*sg (k+1+k):=by
  rw [dt]
  refine sm_congr fun a ha=>?_
  have e1:(fun b=>G a b*sg (k+1+k))=(fun b=>if b=a then 0 else (fun b=>G a b*sg (k+1+k)) b):=by
   funext b
   by_cases e:b=a
   ·subst e;rw [if_pos rfl];show (if b=b then 0 else _)*_=_;rw [if_pos rfl];grind
   ·rw [if_neg e]
  rw [e1,<- sm_rhx (by omega) (fun b=>G a b*sg (k+1+k)),dt,<- sm_mul]
  refine sm_congr fun i hi=>?_
  have hxe:X k (rhx a i)=X (k+1) (rhx a i):=h _ (rhx_lt hi)
  have hmin:dt k (fun c r=>X c (rhx a (rhx i r)))=mn a (rhx a i):=by
   show _=dt k _
   refine dt_congr fun c r _ _=>?_
   by_cases h1:i<a
   ·have e2:rhx a i=i:=by rw [rhx,if_pos h1]
    rw [e2,if_neg (by omega)]
    congr 1
    simp only [rhx]
    repeat' split
    all_goals omega
   ·have e2:rhx a i=i+1:=by rw [rhx,if_neg h1]
    rw [e2,if_pos (by omega),Nat.add_sub_cancel]
  rw [hxe,hmin]
  show _=(if a=rhx a i then 0 else if rhx a i<a then _ else _)*_
  rw [if_neg (fun e=>rhx_ne a i e.symm)]
  have hs:∀ x y:Nat,x%2=y%2->sg x=sg y:=fun x y e=>by unfold sg;rw [e]
  by_cases h1:i<a
  ·have e2:rhx a i=i:=by rw [rhx,if_pos h1]
   rw [e2,if_pos h1]
   have e3:sg (k+1+a)*sg (k+i)=sg (a+i)*sg (k+1+k):=by
    unfold sg
    repeat' split
    all_goals first|omega|grind
   grind
  ·have e2:rhx a i=i+1:=by rw [rhx,if_neg h1]
   rw [e2,if_neg (by omega)]
   have e3:sg (k+1+a)*sg (k+i)= - sg (a+(i+1))*sg (k+1+k):=by
    unfold sg
    repeat' split
    all_goals first|omega|grind
   grind
 have h2:dt (k+2) X= - dt (k+2) X:=by
  have:dt (k+2) X=sm (k+2) fun a=>sm (k+2) fun b=>G b a*sg (k+1+k):=by
   rw [main];exact sm_swap _ _ _
  refine this.trans ?_
  rw [main,<- sm_neg]
  refine sm_congr fun a _=>?_
  rw [<- sm_neg]
  exact sm_congr fun b _=>by rw [hG];grind
 grind
theorem dt_eq:∀ {k:Nat} (X:Nat->Nat->Rat) {p q:Nat} (_:p<q) (_:q<k) (_:∀ r,r<k->X p r=X q r),dt k X=0:=by
 intro k
 induction k with
 | zero=>intros;omega
 | succ k ih=>
  intro X p q hpq hq h
  by_cases e:q=k
  ·subst e
   by_cases e2:p+1=q
   ·subst e2
    exact dt_last2 X h
   ·
    obtain ⟨k',rfl⟩:∃ k',q=k'+1:=⟨q-1,by omega⟩
    have hp:p<k':=by omega
    have swap:∀ (Z:Nat->Nat->Rat),dt (k'+1) (rc (rc Z p (Z k')) k' (Z p))= - dt (k'+1) Z:=by
     intro Z
     have z0:∀ y:Nat->Rat,dt (k'+1) (rc (rc Z p y) k' y)=0:=fun y=>ih _ hp (by omega) fun r _=>by
      unfold rc;rw [if_neg (by omega),if_pos rfl,if_pos rfl]
     have comm:∀ y z:Nat->Rat,rc (rc Z p y) k' z=rc (rc Z k' z) p y:=by
      intro y z;funext c r;unfold rc
      by_cases h1:c=k'
      ·by_cases h2:c=p
       ·omega
       ·rw [if_pos h1,if_neg h2,if_pos h1]
      ·by_cases h2:c=p
       ·rw [if_neg h1,if_pos h2,if_pos h2]
       ·rw [if_neg h1,if_neg h2,if_neg h2,if_neg h1]
     have s1:=z0 (fun r=>Z p r+Z k' r)
     rw [dt_add _ (by omega)] at s1
     rw [comm _ (Z p),comm _ (Z k'),dt_add _ (by omega),dt_add _ (by omega)] at s1
     rw [<- comm,<- comm,<- comm,<- comm] at s1
     rw [z0 (Z p),z0 (Z k')] at s1
     have e3:rc (rc Z p (Z p)) k' (Z k')=Z:=by rw [rc_self,rc_self]
     rw [e3] at s1
     grind
    have hX:dt (k'+1+1) X= - dt (k'+1+1) (rc (rc X p (X k')) k' (X p)):=by
     rw [dt,dt,<- sm_neg]
     refine sm_congr fun l _=>?_
     have e4:rc (rc X p (X k')) k' (X p) (k'+1) l=X (k'+1) l:=by unfold rc;rw [if_neg (by omega),if_neg (by omega)]
     have e5:(fun c r=>rc (rc X p (X k')) k' (X p) c (rhx l r))=rc (rc (fun c r=>X c (rhx l r)) p (fun r=>X k' (rhx l r))) k' (fun r=>X p (rhx l r)):=by
      rw [rc_minor,rc_minor]
     have:=swap (fun c r=>X c (rhx l r))
     rw [e4,e5,this]
     grind
    rw [hX,dt_last2 _ fun r hr=>?_]
    ·grind
    ·have e6:rc (rc X p (X k')) k' (X p) k' r=X p r:=by unfold rc;rw [if_pos rfl]
     have e7:rc (rc X p (X k')) k' (X p) (k'+1) r=X (k'+1) r:=by unfold rc;rw [if_neg (by omega),if_neg (by omega)]
     rw [e6,e7];exact h r hr
  ·rw [dt]
   refine sm_zero fun l _=>?_
   rw [ih _ hpq (by omega) fun r hr=>h (rhx l r) (rhx_lt hr)]
   grind
theorem dt_unit{k:Nat}(X:Nat->Nat->Rat)(h:∀ r,r<k->X k r=0):dt (k+1) X=X k k*dt k X:=by
 rw [dt,sm_one (k:=k) (by omega) fun i hi hne=>by rw [h i (by omega)];grind]
 have:dt k (fun c r=>X c (rhx k r))=dt k X:=dt_congr fun c r _ hr=>by rw [rhx,if_pos hr]
 have hs:sg (k+k)=1:=by unfold sg;rw [if_pos (by omega)]
 rw [this,hs,Rat.one_mul]
def Wh(q:Rat):Prop:=∃ z:Int,q=(z:Rat)
theorem Wh.add{p q:Rat}(hp:Wh p)(hq:Wh q):Wh (p+q):=by
 obtain ⟨a,rfl⟩:=hp;obtain ⟨b,rfl⟩:=hq
 exact ⟨a+b,by rw [Rat.intCast_add]⟩
theorem Wh.mul{p q:Rat}(hp:Wh p)(hq:Wh q):Wh (p*q):=by
 obtain ⟨a,rfl⟩:=hp;obtain ⟨b,rfl⟩:=hq
 exact ⟨a*b,by rw [Rat.intCast_mul]⟩
theorem Wh.sg(n:Nat):Wh (sg n):=by
 unfold Go.Proofs.YthilnfgnpdeofaaGreatDoor.sg
 split
 ·exact ⟨1,rfl⟩
 ·exact ⟨-1,by decide +kernel⟩
theorem Wh.sm{n:Nat}{f:Nat->Rat}(h:∀ i,i<n->Wh (f i)):Wh (sm n f):=by
 induction n with
 | zero=>exact ⟨0,rfl⟩
 | succ n ih=>exact (ih fun i hi=>h i (by omega)).add (h n (by omega))
theorem dt_wh{k:Nat}: ∀ {X:Nat->Nat->Rat},(∀ c r,c<k->r<k->Wh (X c r))->Wh (dt k X):=by
 induction k with
 | zero=>intro X _;exact ⟨1,rfl⟩
 | succ k ih=>
  intro X h
  rw [dt]
  refine Wh.sm fun l hl=>?_
  exact ((Wh.sg _).mul (h k l (by omega) hl)).mul (ih fun c r hc hr=>h c _ (by omega) (rhx_lt hr))
structure Elim (n w:Nat) (B R:Nat->Nat->Rat) (cs:Nat->Nat) (k:Nat):Prop where
 kn:k<=n
 cw:∀ m,m<k->cs m<w
 piv:∀ l m,l<k->m<k->R l (cs m)=if l=m then 1 else 0
 low:∀ i m,i<n->k<=i->m<k->R i (cs m)=0
 top:∀ l j,l<k->j<w->B l j=sm k fun m=>B l (cs m)*R m j
 bot:∀ i j,i<n->k<=i->j<w->B i j=R i j+sm k fun m=>B i (cs m)*R m j
def dp(B:Nat->Nat->Rat)(cs:Nat->Nat)(k:Nat):Rat:=dt k fun c r=>B r (cs c)
section
variable {n w:Nat} {B R:Nat->Nat->Rat} {cs:Nat->Nat} {k:Nat}
theorem Elim.below(E:Elim n w B R cs k){i j:Nat}(hi:i<n)(hk:k<=i)(hj:j<w):dp B cs k*R i j=dt (k+1) fun c r=>B (if r<k then r else i) (if c<k then cs c else j):=by
 have e0:(fun c r=>B (if r<k then r else i) (if c<k then cs c else j))=rc (fun c r=>B (if r<k then r else i) (cs c)) k (fun r=>B (if r<k then r else i) j)\/True:=.inr trivial
 clear e0
 let X:Nat->Nat->Rat:=fun c r=>B (if r<k then r else i) (cs c)
 have h1:dt (k+1) (fun c r=>B (if r<k then r else i) (if c<k then cs c else j))=dt (k+1) (rc X k fun r=>(sm k fun t=>R t j*X t r)+(if r<k then 0 else R i j)):=by
  refine dt_congr fun c r hc hr=>?_
  unfold rc
  by_cases h:c=k
  ·subst h
   rw [if_neg (Nat.lt_irrefl c),if_pos rfl]
   show _=(sm c fun t=>R t j*X t r)+(if r<c then 0 else R i j)
   by_cases h2:r<c
   ·rw [if_pos h2,if_pos h2,Rat.add_zero,E.top r j h2 hj]
    refine sm_congr fun m _=>?_
    show _=_*B (if r<c then r else i) (cs m)
    rw [if_pos h2,Rat.mul_comm]
   ·rw [if_neg h2,if_neg h2,E.bot i j hi hk hj,Rat.add_comm]
    congr 1
    refine sm_congr fun m _=>?_
    show _=_*B (if r<c then r else i) (cs m)
    rw [if_neg h2,Rat.mul_comm]
  ·rw [if_neg h,if_pos (show c<k by omega)]
 rw [h1,dt_add _ (by omega),dt_sum X (by omega) (fun t=>R t j) X]
 rw [sm_zero fun t ht=>by
  rw [dt_eq (rc X k (X t)) (p:=t) (q:=k) ht (by omega) fun r _=>by unfold rc;rw [if_neg (by omega),if_pos rfl]]
  exact Rat.mul_zero _]
 rw [dt_unit _ fun r hr=>by unfold rc;rw [if_pos rfl];show (if r<k then 0 else R i j)=0;rw [if_pos hr]]
 have e2:dt k (rc X k fun r=>if r<k then 0 else R i j)=dp B cs k:=by
  refine dt_congr fun c r hc hr=>?_
  unfold rc
  rw [if_neg (by omega)]
  show B (if r<k then r else i) (cs c)=_
  rw [if_pos hr]
 rw [e2]
 unfold rc
 rw [if_pos rfl]
 show _=0+(if k<k then 0 else R i j)*_
 rw [if_neg (Nat.lt_irrefl k)]
 grind
theorem Elim.above(E:Elim n w B R cs k){i j:Nat}(hi:i<k)(hj:j<w):dp B cs k*R i j=dt k (rc (fun c r=>B r (cs c)) i fun r=>B r j):=by
 let X:Nat->Nat->Rat:=fun c r=>B r (cs c)
 have h1:dt k (rc X i fun r=>B r j)=dt k (rc X i fun r=>sm k fun t=>R t j*X t r):=by
  refine dt_congr fun c r hc hr=>?_
  unfold rc
  split
  ·show B r j=sm k fun t=>R t j*X t r
   rw [E.top r j hr hj]
   exact sm_congr fun m _=>Rat.mul_comm _ _
  ·rfl
 show _=dt k (rc X i fun r=>B r j)
 rw [h1,dt_sum X hi (fun t=>R t j) X,sm_one (k:=i) hi fun t ht hne=>?_]
 ·rw [rc_self,Rat.mul_comm];rfl
 ·rcases Nat.lt_or_ge t i with h|h
  ·rw [dt_eq (rc X i (X t)) (p:=t) (q:=i) h hi fun r _=>by unfold rc;rw [if_neg (by omega),if_pos rfl]]
   exact Rat.mul_zero _
  ·rw [dt_eq (rc X i (X t)) (p:=i) (q:=t) (by omega) ht fun r _=>by unfold rc;rw [if_pos rfl,if_neg (by omega)]]
   exact Rat.mul_zero _
theorem Elim.whole(E:Elim n w B R cs k)(hB:∀ i j,i<n->j<w->Wh (B i j)){i j:Nat}(hi:i<n)(hj:j<w):Wh (dp B cs k*R i j):=by
 by_cases h:i<k
 ·rw [E.above h hj]
  refine dt_wh fun c r hc hr=>?_
  have:=E.kn
  unfold rc
  split
  ·exact hB r j (by omega) hj
  ·exact hB r _ (by omega) (E.cw c hc)
 ·rw [E.below hi (by omega) hj]
  refine dt_wh fun c r hc hr=>?_
  refine hB _ _ ?_ ?_
  ·split<;>omega
  ·split
   ·exact E.cw c (by assumption)
   ·exact hj
theorem Elim.next(E:Elim n w B R cs k){j:Nat}(hk:k<n)(hj:j<w)(hc:cs k=j):dp B cs (k+1)=dp B cs k*R k j:=by
 rw [E.below hk (Nat.le_refl _) hj]
 refine dt_congr fun c r hc' hr=>?_
 have e1:(if r<k then r else k)=r:=by split<;>omega
 have e2:(if c<k then cs c else j)=cs c:=by
  split
  ·rfl
  ·have:c=k:=by omega
   rw [this,hc]
 rw [e1,e2]
def elimR(R:Nat->Nat->Rat)(k j:Nat):Nat->Nat->Rat:=fun a b=>if a=k then R k b/R k j else R a b-R a j*(R k b/R k j)
theorem Elim.step(E:Elim n w B R cs k){j:Nat}(hk:k<n)(hj:j<w)(hc:cs k=j)(hne:R k j≠0):Elim n w B (elimR R k j) cs (k+1):=by
 have piv0:∀ m,m<k->R k (cs m)=0:=fun m hm=>E.low k m hk (Nat.le_refl _) hm
 have hkk:R k j/R k j=1:=by grind
 refine ⟨by omega,fun m hm=>?_,fun l m hl hm=>?_,fun i m hi hki hm=>?_,fun l b hl hb=>?_,fun i b hi hki hb=>?_⟩
 ·by_cases e:m=k
  ·rw [e,hc];exact hj
  ·exact E.cw m (by omega)
 ·unfold elimR
  by_cases em:m=k
  ·subst em
   rw [hc]
   by_cases el:l=m
   ·rw [if_pos el,if_pos el];exact hkk
   ·rw [if_neg el,if_neg el,hkk];grind
  ·have hm':m<k:=by omega
   rw [piv0 m hm']
   by_cases el:l=k
   ·subst el
    rw [if_pos rfl,if_neg (by omega)];grind
   ·rw [if_neg el,E.piv l m (by omega) hm']
    grind
 ·unfold elimR
  rw [if_neg (by omega)]
  by_cases em:m=k
  ·subst em
   rw [hc,hkk];grind
  ·have hm':m<k:=by omega
   rw [piv0 m hm',E.low i m hi (by omega) hm']
   grind
 ·rw [sm]
  have e1:(elimR R k j) k b=R k b/R k j:=by unfold elimR;rw [if_pos rfl]
  have e2:sm k (fun m=>B l (cs m)*elimR R k j m b)=sm k (fun m=>B l (cs m)*R m b)-sm k (fun m=>B l (cs m)*R m j)*(R k b/R k j):=by
   have:(fun m=>B l (cs m)*elimR R k j m b)=fun m=>if m=k then B l (cs k)*(R k b/R k j) else B l (cs m)*R m b+(-(R k b/R k j))*(B l (cs m)*R m j):=by
    funext m
    unfold elimR
    by_cases e:m=k
    ·rw [if_pos e,if_pos e,e]
    ·rw [if_neg e,if_neg e];grind
   rw [this,sm_congr (g:=fun m=>B l (cs m)*R m b+(-(R k b/R k j))*(B l (cs m)*R m j)) fun m hm=>by rw [if_neg (by omega)]]
   rw [sm_add,sm_mul];grind
  rw [e1,e2,hc]
  by_cases el:l=k
  ·subst el
   have t1:=E.bot l b hk (Nat.le_refl _) hb
   have t2:=E.bot l j hk (Nat.le_refl _) hj
   grind
  ·have t1:=E.top l b (by omega) hb
   have t2:=E.top l j (by omega) hj
   grind
 ·rw [sm]
  have e1:(elimR R k j) k b=R k b/R k j:=by unfold elimR;rw [if_pos rfl]
  have e2:sm k (fun m=>B i (cs m)*elimR R k j m b)=sm k (fun m=>B i (cs m)*R m b)-sm k (fun m=>B i (cs m)*R m j)*(R k b/R k j):=by
   have:(fun m=>B i (cs m)*elimR R k j m b)=fun m=>if m=k then B i (cs k)*(R k b/R k j) else B i (cs m)*R m b+(-(R k b/R k j))*(B i (cs m)*R m j):=by
    funext m
    unfold elimR
    by_cases e:m=k
    ·rw [if_pos e,if_pos e,e]
    ·rw [if_neg e,if_neg e];grind
   rw [this,sm_congr (g:=fun m=>B i (cs m)*R m b+(-(R k b/R k j))*(B i (cs m)*R m j)) fun m hm=>by rw [if_neg (by omega)]]
   rw [sm_add,sm_mul];grind
  have e3:elimR R k j i b=R i b-R i j*(R k b/R k j):=by unfold elimR;rw [if_neg (by omega)]
  have t1:=E.bot i b hi (by omega) hb
  have t2:=E.bot i j hi (by omega) hj
  rw [e1,e2,e3,hc]
  grind
def xch(k l:Nat)(i:Nat):Nat:=if i=k then l else if i=l then k else i
theorem Elim.swap(E:Elim n w B R cs k){l:Nat}(hk:k<=l)(hl:l<n):Elim n w (fun i=>B (xch k l i)) (fun i=>R (xch k l i)) cs k:=by
 have hx:∀ i,i<k->xch k l i=i:=fun i hi=>by unfold xch;rw [if_neg (by omega),if_neg (by omega)]
 have hy:∀ i,i<n->k<=i->xch k l i<n/\k<=xch k l i:=fun i h1 h2=>by unfold xch;split<;>(try split)<;>omega
 refine ⟨E.kn,E.cw,fun a m ha hm=>?_,fun i m hi hki hm=>?_,fun a j ha hj=>?_,fun i j hi hki hj=>?_⟩
 ·show R (xch k l a) _=_
  rw [hx a ha];exact E.piv a m ha hm
 ·have:=hy i hi hki
  exact E.low _ m this.1 this.2 hm
 ·show B (xch k l a) j=sm k fun m=>B (xch k l a) (cs m)*R (xch k l m) j
  rw [hx a ha,E.top a j ha hj]
  exact sm_congr fun m hm=>by rw [hx m hm]
 ·have:=hy i hi hki
  show B (xch k l i) j=R (xch k l i) j+sm k fun m=>B (xch k l i) (cs m)*R (xch k l m) j
  rw [E.bot _ j this.1 this.2 hj]
  congr 1
  exact sm_congr fun m hm=>by rw [hx m hm]
theorem dp_swap(B:Nat->Nat->Rat)(cs:Nat->Nat){k l:Nat}(hk:k<=l):dp (fun i=>B (xch k l i)) cs k=dp B cs k:=by
 refine dt_congr fun c r _ hr=>?_
 show B (xch k l r) _=_
 unfold xch;rw [if_neg (by omega),if_neg (by omega)]
theorem Elim.start:Elim n w B B cs 0:=by
 refine ⟨Nat.zero_le _,fun m hm=>by omega,fun l m hl=>by omega,fun i m _ _ hm=>by omega,fun l j hl=>by omega,fun i j _ _ _=>by rw [sm,Rat.add_zero]⟩
theorem Elim.cs_congr{cs':Nat->Nat}(E:Elim n w B R cs k)(h:∀ m,m<k->cs m=cs' m):Elim n w B R cs' k:=by
 refine ⟨E.kn,fun m hm=>by rw [<- h m hm];exact E.cw m hm,fun l m hl hm=>by rw [<- h m hm];exact E.piv l m hl hm,fun i m h1 h2 hm=>by rw [<- h m hm];exact E.low i m h1 h2 hm,fun l j hl hj=>?_,fun i j h1 h2 hj=>?_⟩
 ·rw [E.top l j hl hj];exact sm_congr fun m hm=>by rw [h m hm]
 ·rw [E.bot i j h1 h2 hj];congr 1;exact sm_congr fun m hm=>by rw [h m hm]
theorem dp_congr{cs':Nat->Nat}(h:∀ m,m<k->cs m=cs' m):dp B cs k=dp B cs' k:=dt_congr fun c r hc _=>by rw [h c hc]
end
end Go.Proofs.YthilnfgnpdeofaaGreatDoor
/-
 Elimination with numbers and elimination without fractions,held against each other.
-/
namespace Go.Proofs.YthilnfgnpdeofaaGreatDoor
def fnd(p:Nat->Bool):Nat->Nat->Nat
 | 0,i=>i
 | f+1,i=>bif p i then i else fnd p f (i+1)
theorem fnd_le(p:Nat->Bool):∀ f i,i<=fnd p f i/\fnd p f i<=i+f:=by
 intro f
 induction f with
 | zero=>intro i;simp [fnd]
 | succ f ih=>
  intro i
  unfold fnd
  cases p i with
  | true=>simp
  | false=>have:=ih (i+1);simp only [cond_false];omega
theorem fnd_hit(p:Nat->Bool):∀ f i,fnd p f i<i+f->p (fnd p f i)=true:=by
 intro f
 induction f with
 | zero=>intro i h;simp [fnd] at h
 | succ f ih=>
  intro i h
  unfold fnd at h ⊢
  cases hp:p i with
  | true=>simp only [hp,cond_true]
  | false=>simp only [hp,cond_false] at h ⊢;exact ih (i+1) (by omega)
theorem fnd_miss(p:Nat->Bool):∀ f i j,i<=j->j<fnd p f i->p j=false:=by
 intro f
 induction f with
 | zero=>intro i j h1 h2;simp [fnd] at h2;omega
 | succ f ih=>
  intro i j h1 h2
  unfold fnd at h2
  cases hp:p i with
  | true=>simp only [hp,cond_true] at h2;omega
  | false=>
   simp only [hp,cond_false] at h2
   by_cases e:j=i
   ·rw [e];exact hp
   ·exact ih (i+1) j (by omega) h2
theorem fnd_congr{p q:Nat->Bool}: ∀ f i,(∀ j,i<=j->j<i+f->p j=q j)->fnd p f i=fnd q f i:=by
 intro f
 induction f with
 | zero=>intros;rfl
 | succ f ih=>
  intro i h
  unfold fnd
  rw [h i (by omega) (by omega),ih (i+1) fun j h1 h2=>h j (by omega) (by omega)]
theorem fnd_eq(p:Nat->Bool){f i k:Nat}(h1:i<=k)(h2:k<=i+f)(h3:∀ j,i<=j->j<k->p j=false)(h4:k<i+f->p k=true):fnd p f i=k:=by
 have a:=fnd_le p f i
 rcases Nat.lt_trichotomy (fnd p f i) k with h|h|h
 ·have:=fnd_hit p f i (by omega);rw [h3 _ a.1 h] at this;cases this
 ·exact h
 ·have:=fnd_miss p f i k h1 h;rw [h4 (by omega)] at this;cases this
structure ES where
 R:Nat->Nat->Rat
 cs:List Nat
 det:Rat
def elimE(R:Nat->Nat->Rat)(k j:Nat):Nat->Nat->Rat:=fun a b=>if a=k then R k b/R k j else if R a j=0\/b<j then R a b else R a b-R a j*(R k b/R k j)
def rowE(n c:Nat)(s:ES):Nat:=fnd (fun i=>decide (s.R i c≠0)) (n-s.cs.length) s.cs.length
def stepE(n c:Nat)(s:ES):ES:=
 if s.cs.length<n then
  if rowE n c s<n then
   { R:=elimE (fun i=>s.R (xch s.cs.length (rowE n c s) i)) s.cs.length c
     cs:=s.cs++[c]
     det:=(if rowE n c s=s.cs.length then s.det else-s.det)*s.R (rowE n c s) c }
  else { s with det:=0 }
 else s
def runE(n:Nat)(s:ES):Nat->ES
 | 0=>s
 | c+1=>stepE n c (runE n s c)
structure PS where
 M:Nat->Nat->Int
 S:Nat->Rat
 cs:List Nat
 last:Int
 sgn:Int
def clr(M:Nat->Nat->Int)(r c:Nat)(d:Int):Nat->Nat->Int:=fun a b=>if a=r then M r b else (M r c*M a b-M a c*M r b).tdiv d
def rowP(n c:Nat)(s:PS):Nat:=fnd (fun i=>decide (s.M i c≠0)) (n-s.cs.length) s.cs.length
def stepP(n c:Nat)(s:PS):PS:=
 if rowP n c s<n then
  { M:=clr (fun i=>s.M (xch s.cs.length (rowP n c s) i)) s.cs.length c s.last
    S:=fun i=>s.S (xch s.cs.length (rowP n c s) i)
    cs:=s.cs++[c]
    last:=s.M (rowP n c s) c
    sgn:=if rowP n c s=s.cs.length then s.sgn else-s.sgn }
 else s
def runP(n:Nat)(s:PS):Nat->PS
 | 0=>s
 | c+1=>stepP n c (runP n s c)
def pr:Nat->(Nat->Rat)->Rat
 | 0,_=>1
 | n+1,f=>pr n f*f n
theorem pr_congr{n:Nat}{f g:Nat->Rat}(h:∀ i,i<n->f i=g i):pr n f=pr n g:=by
 induction n with
 | zero=>rfl
 | succ n ih=>rw [pr,pr,ih (fun i hi=>h i (by omega)),h n (by omega)]
theorem pr_ne{n:Nat}{f:Nat->Rat}(h:∀ i,i<n->f i≠0):pr n f≠0:=by
 induction n with
 | zero=>rw [pr];decide +kernel
 | succ n ih=>
  rw [pr]
  have h1:=ih fun i hi=>h i (by omega)
  have h2:=h n (by omega)
  intro e
  rcases Rat.mul_eq_zero.1 e with e|e
  ·exact h1 e
  ·exact h2 e
theorem xch_left(k l:Nat):xch k l k=l:=by unfold xch;rw [if_pos rfl]
theorem xch_lt{k l i n:Nat}(hk:k<n)(hl:l<n)(hi:i<n):xch k l i<n:=by unfold xch;split<;>(try split)<;>omega
theorem xch_ge{k l i:Nat}(hkl:k<=l)(hi:k<=i):k<=xch k l i:=by unfold xch;split<;>(try split)<;>omega
theorem xch_below{k l i:Nat}(hkl:k<=l)(hi:i<k):xch k l i=i:=by unfold xch;rw [if_neg (by omega),if_neg (by omega)]
theorem tdiv_of_mul{x d z:Int}(hd:d≠0)(h:x=d*z):x.tdiv d=z:=by
 rw [h,Int.mul_tdiv_cancel_left _ hd]
structure ERel (n w c:Nat) (A:Nat->Nat->Rat) (s:ES) (t:PS):Prop where
 cs:s.cs=t.cs
 elim:∃ B,(∀ i j,i<n->j<w->Wh (B i j))/\Elim n w B (fun i j=>if i<s.cs.length then s.R i j else t.S i*s.R i j) (fun m=>s.cs.getD m 0) s.cs.length/\(t.last:Rat)=dp B (fun m=>s.cs.getD m 0) s.cs.length
 last:t.last≠0
 val:∀ i j,i<n->j<w->(t.M i j:Rat)=t.last*(if i<s.cs.length then s.R i j else t.S i*s.R i j)
 scale:∀ i,i<n->t.S i≠0
 zero:∀ i j,i<n->s.cs.length<=i->j<c->s.R i j=0
 asc:s.cs.length<=c
 det:s.cs.length=c->s.det*pr s.cs.length t.S=t.sgn*t.last
 miss:s.cs.length<c->s.cs.length<n->s.det=0
 sgn:t.sgn=1\/t.sgn= -1
theorem ratCast_ne{z:Int}(h:z≠0):(z:Rat)≠0:=by
 intro e
 exact h (by exact_mod_cast e)
theorem ERel.start{n w:Nat}{A:Nat->Nat->Rat}{M:Nat->Nat->Int}{S:Nat->Rat}(h:∀ i j,i<n->j<w->(M i j:Rat)=S i*A i j)(hS:∀ i,i<n->S i≠0):ERel n w 0 A ⟨A,[],1⟩ ⟨M,S,[],1,1⟩:=by
 have e:∀ (x:Rat),((1:Int):Rat)*x=x:=fun x=>by
  have:((1:Int):Rat)=1:=rfl
  rw [this,Rat.one_mul]
 refine ⟨rfl,⟨fun i j=>S i*A i j,fun i j hi hj=>⟨M i j,(h i j hi hj).symm⟩,?_,rfl⟩,(by decide:(1:Int)≠0),fun i j hi hj=>?_,hS,fun i j _ _ hj=>by omega,Nat.le_refl _,fun _=>?_,fun h=>by simp at h,.inl rfl⟩
 ·have:(fun i j=>if i<([]:List Nat).length then A i j else S i*A i j)=fun i j=>S i*A i j:=by
   funext i j;rw [if_neg (by simp)]
  show Elim n w _ (fun i j=>if i<([]:List Nat).length then A i j else S i*A i j) _ 0
  rw [this]
  exact Elim.start
 ·show (M i j:Rat)=((1:Int):Rat)*(if i<([]:List Nat).length then A i j else S i*A i j)
  rw [e,if_neg (by simp),h i j hi hj]
 ·show (1:Rat)*pr 0 S=((1:Int):Rat)*((1:Int):Rat)
  rw [e]
  exact Rat.one_mul _
theorem getD_snoc(l:List Nat)(c:Nat):∀ m,m<l.length->(l++[c]).getD m 0=l.getD m 0:=by
 intro m hm
 rw [List.getD_eq_getElem?_getD,List.getD_eq_getElem?_getD,List.getElem?_append_left hm]
theorem getD_last(l:List Nat)(c:Nat):(l++[c]).getD l.length 0=c:=by
 rw [List.getD_eq_getElem?_getD,List.getElem?_append_right (Nat.le_refl _)];simp
theorem ERel.row{n w c:Nat}{A:Nat->Nat->Rat}{s:ES}{t:PS}(h:ERel n w c A s t)(hc:c<w):rowP n c t=rowE n c s:=by
 unfold rowP rowE
 rw [<- h.cs]
 refine fnd_congr _ _ fun j h1 h2=>?_
 have hv:=h.val j c (by omega) hc
 rw [if_neg (by omega)] at hv
 have h3:=ratCast_ne h.last
 have h4:=h.scale j (by omega)
 refine decide_eq_decide.2 (not_congr ⟨fun e=>?_,fun e=>?_⟩)
 ·rw [e] at hv
  have h0:((0:Int):Rat)=0:=rfl
  rw [h0] at hv
  rcases Rat.mul_eq_zero.1 hv.symm with e1|e1
  ·exact absurd e1 h3
  ·rcases Rat.mul_eq_zero.1 e1 with e2|e2
   ·exact absurd e2 h4
   ·exact e2
 ·rw [e,Rat.mul_zero,Rat.mul_zero] at hv
  exact_mod_cast hv
theorem ERel.step{n w c:Nat}{A:Nat->Nat->Rat}{s:ES}{t:PS}(h:ERel n w c A s t)(hc:c<w):ERel n w (c+1) A (stepE n c s) (stepP n c t):=by
 have hrow:=h.row hc
 have hlen:=fnd_le (fun i=>decide (s.R i c≠0)) (n-s.cs.length) s.cs.length
 have hmiss:=fnd_miss (fun i=>decide (s.R i c≠0)) (n-s.cs.length) s.cs.length
 have hhit:=fnd_hit (fun i=>decide (s.R i c≠0)) (n-s.cs.length) s.cs.length
 have hR:fnd (fun i=>decide (s.R i c≠0)) (n-s.cs.length) s.cs.length=rowE n c s:=rfl
 rw [hR] at hlen hmiss hhit
 obtain ⟨B,hB,E,hD⟩:=h.elim
 unfold stepE stepP
 rw [hrow]
 by_cases hk:rowE n c s<n
 ·have hkn:s.cs.length<n:=by omega
  rw [if_pos hkn,if_pos hk,if_pos hk,<- h.cs]
  generalize hr:rowE n c s=r at *
  generalize hl:s.cs.length=k at *
  have hne:s.R r c≠0:=by
   have:=hhit (by omega)
   simpa using this
  have E1:=E.swap (l:=r) hlen.1 hk
  have hcs1:∀ m,m<k->s.cs.getD m 0=(s.cs++[c]).getD m 0:=fun m hm=>(getD_snoc s.cs c m (by omega)).symm
  have E2:=E1.cs_congr hcs1
  have hlast:(s.cs++[c]).getD k 0=c:=by rw [<- hl];exact getD_last _ _
  have hlen':(s.cs++[c]).length=k+1:=by rw [List.length_append,hl];rfl
  have xk:xch k r k=r:=xch_left k r
  have hp0:(if xch k r k<k then s.R (xch k r k) c else t.S (xch k r k)*s.R (xch k r k) c)=t.S r*s.R r c:=by rw [xk,if_neg (by omega)]
  have hSr:=h.scale r hk
  have hpne:t.S r*s.R r c≠0:=by
   intro e
   rcases Rat.mul_eq_zero.1 e with e|e
   ·exact hSr e
   ·exact hne e
  have E3:=E2.step (j:=c) hkn hc hlast (by show (if xch k r k<k then _ else _)≠0;rw [hp0];exact hpne)
  have hDn:=E2.next (j:=c) hkn hc hlast
  have hD1:dp (fun i=>B (xch k r i)) (fun m=>(s.cs++[c]).getD m 0) k=(t.last:Rat):=by
   rw [hD,<- dp_congr hcs1,dp_swap B _ hlen.1]
  rw [hD1] at hDn
  have hpv:(if xch k r k<k then s.R (xch k r k) c else t.S (xch k r k)*s.R (xch k r k) c)=t.S r*s.R r c:=hp0
  have hnl:(t.M r c:Rat)=t.last*(t.S r*s.R r c):=by
   have:=h.val r c hk hc
   rw [if_neg (by omega)] at this;exact this
  have hDn':dp (fun i=>B (xch k r i)) (fun m=>(s.cs++[c]).getD m 0) (k+1)=(t.M r c:Rat):=by
   rw [hDn,hnl]
   show (t.last:Rat)*(if xch k r k<k then s.R (xch k r k) c else t.S (xch k r k)*s.R (xch k r k) c)=_
   rw [hpv]
  have hlne:=ratCast_ne h.last
  have hMne:t.M r c≠0:=by
   intro e
   rw [e] at hnl
   have h0:((0:Int):Rat)=0:=rfl
   rw [h0] at hnl
   rcases Rat.mul_eq_zero.1 hnl.symm with e1|e1
   ·exact hlne e1
   ·exact hpne e1
  have hz:∀ b,b<c->s.R r b=0:=fun b hb=>h.zero r b hk (by omega) hb
  have hQ:∀ i j,(if i<k+1 then elimE (fun i=>s.R (xch k r i)) k c i j else t.S (xch k r i)*elimE (fun i=>s.R (xch k r i)) k c i j)=elimR (fun i j=>if xch k r i<k then s.R (xch k r i) j else t.S (xch k r i)*s.R (xch k r i) j) k c i j:=by
   intro i j
   unfold elimE elimR
   by_cases e:i=k
   ·subst e
    simp only [if_true,xk,if_neg (show ¬ r<i by omega),if_pos (show i<i+1 by omega)]
    grind
   ·have hb:s.R r j=0\/¬ j<c:=by
     by_cases hj:j<c
     ·exact .inl (hz j hj)
     ·exact .inr hj
    simp only [if_neg e,xk,if_neg (show ¬ r<k by omega)]
    by_cases hi:i<k
    ·rw [if_pos (show i<k+1 by omega),xch_below hlen.1 hi,if_pos hi,if_pos hi]
     split
     ·rename_i h1
      rcases h1 with h1|h1
      ·rw [h1];grind
      ·rw [hz j h1];grind
     ·grind
    ·have hx:¬ xch k r i<k:=by have:=xch_ge (i:=i) hlen.1 (by omega);omega
     rw [if_neg (show ¬ i<k+1 by omega),if_neg hx,if_neg hx]
     split
     ·rename_i h1
      rcases h1 with h1|h1
      ·rw [h1];grind
      ·rw [hz j h1];grind
     ·grind
  have hQf:(fun i j=>if i<k+1 then elimE (fun i=>s.R (xch k r i)) k c i j else t.S (xch k r i)*elimE (fun i=>s.R (xch k r i)) k c i j)=elimR (fun i j=>if xch k r i<k then s.R (xch k r i) j else t.S (xch k r i)*s.R (xch k r i) j) k c:=by
   funext i j;exact hQ i j
  have hxn:∀ i,i<n->xch k r i<n:=fun i hi=>xch_lt hkn hk hi
  refine ⟨rfl,⟨fun i=>B (xch k r i),fun i j hi hj=>hB _ j (hxn i hi) hj,?_,?_⟩,hMne,fun i j hi hj=>?_,fun i hi=>h.scale _ (hxn i hi),fun i j hi hki hj=>?_,?_,fun he=>?_,fun he _=>?_,?_⟩
  ·show Elim n w _ (fun i j=>if i<(s.cs++[c]).length then elimE (fun i=>s.R (xch k r i)) k c i j else t.S (xch k r i)*elimE (fun i=>s.R (xch k r i)) k c i j) _ (s.cs++[c]).length
   rw [hlen',hQf]
   exact E3
  ·show (t.M r c:Rat)=dp _ _ (s.cs++[c]).length
   rw [hlen',hDn']
  ·show (clr (fun i=>t.M (xch k r i)) k c t.last i j:Rat)=(t.M r c:Rat)*(if i<(s.cs++[c]).length then elimE (fun i=>s.R (xch k r i)) k c i j else t.S (xch k r i)*elimE (fun i=>s.R (xch k r i)) k c i j)
   rw [hlen',hQ i j]
   unfold clr
   by_cases e:i=k
   ·subst e
    rw [if_pos rfl]
    show (t.M (xch i r i) j:Rat)=_
    rw [xk]
    unfold elimR
    simp only [if_true,xk,if_neg (show ¬ r<i by omega)]
    have:=h.val r j hk hj
    rw [if_neg (by omega)] at this
    rw [this,hnl]
    grind
   ·rw [if_neg e]
    show (((t.M (xch k r k) c*t.M (xch k r i) j-t.M (xch k r i) c*t.M (xch k r k) j).tdiv t.last:Int):Rat)=_
    rw [xk]
    have hw:=E3.whole (fun i j hi hj=>hB _ j (hxn i hi) hj) hi hj
    rw [hDn'] at hw
    obtain ⟨z,hz'⟩:=hw
    have v1:=h.val (xch k r i) j (hxn i hi) hj
    have v2:=h.val (xch k r i) c (hxn i hi) hc
    have v3:=h.val r j hk hj
    rw [hl] at v1 v2 v3
    rw [if_neg (show ¬ r<k by omega)] at v3
    have hx:t.M r c*t.M (xch k r i) j-t.M (xch k r i) c*t.M r j=t.last*z:=by
     have:((t.M r c*t.M (xch k r i) j-t.M (xch k r i) c*t.M r j:Int):Rat)=((t.last*z:Int):Rat):=by
      rw [Rat.intCast_sub,Rat.intCast_mul,Rat.intCast_mul,Rat.intCast_mul,<- hz',v1,v2,v3,hnl]
      unfold elimR
      simp only [if_neg e,xk,if_neg (show ¬ r<k by omega)]
      generalize (if xch k r i<k then s.R (xch k r i) j else t.S (xch k r i)*s.R (xch k r i) j)=u1
      generalize (if xch k r i<k then s.R (xch k r i) c else t.S (xch k r i)*s.R (xch k r i) c)=u2
      have h1:t.S r*s.R r j/(t.S r*s.R r c)*(t.S r*s.R r c)=t.S r*s.R r j:=by
       rw [Rat.div_mul_cancel hpne]
      grind
     exact_mod_cast this
    rw [tdiv_of_mul h.last hx,<- hz']
  ·show elimE (fun i=>s.R (xch k r i)) k c i j=0
   have hki':k+1<=i:=by
    have:(s.cs++[c]).length<=i:=hki
    omega
   have hge:=xch_ge (i:=i) hlen.1 (show k<=i by omega)
   unfold elimE
   rw [if_neg (by omega)]
   simp only [xk]
   by_cases e:j=c
   ·subst e
    split
    ·rename_i h1
     rcases h1 with h1|h1
     ·exact h1
     ·omega
    ·grind
   ·rw [if_pos (.inr (by omega))]
    exact h.zero _ j (hxn i hi) (by omega) (by omega)
  ·show (s.cs++[c]).length<=c+1
   have:=h.asc
   omega
  ·show (if r=k then s.det else -s.det)*s.R r c*pr (s.cs++[c]).length (fun i=>t.S (xch k r i))=((if r=k then t.sgn else -t.sgn:Int):Rat)*(t.M r c:Rat)
   have hkc:k=c:=by
    have:(s.cs++[c]).length=c+1:=he
    omega
   have hd:=h.det (by omega)
   rw [hl] at hd
   rw [hlen',pr,xk,pr_congr (g:=t.S) fun i hi=>by rw [xch_below hlen.1 hi],hnl]
   by_cases e:r=k
   ·rw [if_pos e,if_pos e];grind
   ·rw [if_neg e,if_neg e,Rat.intCast_neg];grind
  ·show (if r=k then s.det else -s.det)*s.R r c=0
   have:(s.cs++[c]).length<c+1:=he
   have hd:=h.miss (by omega) (by omega)
   rw [hd]
   split<;>grind
  ·show (if r=k then t.sgn else -t.sgn)=1\/(if r=k then t.sgn else -t.sgn)= -1
   have:=h.sgn
   split<;>omega
 ·rw [if_neg hk,if_neg hk]
  have hall:∀ i,i<n->s.cs.length<=i->s.R i c=0:=by
   intro i hi hki
   have:=hmiss i hki (by omega)
   simpa using this
  have hzero:∀ i j,i<n->s.cs.length<=i->j<c+1->s.R i j=0:=by
   intro i j hi hki hj
   by_cases e:j=c
   ·rw [e];exact hall i hi hki
   ·exact h.zero i j hi hki (by omega)
  by_cases hkn:s.cs.length<n
  ·rw [if_pos hkn]
   exact ⟨h.cs,⟨B,hB,E,hD⟩,h.last,h.val,h.scale,hzero,Nat.le_succ_of_le h.asc,fun he=>by have:=h.asc;have:s.cs.length=c+1:=he;omega,fun _ _=>rfl,h.sgn⟩
  ·rw [if_neg hkn]
   exact ⟨h.cs,⟨B,hB,E,hD⟩,h.last,h.val,h.scale,hzero,Nat.le_succ_of_le h.asc,fun he=>by have:=h.asc;omega,fun _ hx=>absurd hx hkn,h.sgn⟩
theorem ERel.run{n w:Nat}{A:Nat->Nat->Rat}{s:ES}{t:PS}(h:ERel n w 0 A s t):∀ c,c<=w->ERel n w c A (runE n s c) (runP n t c):=by
 intro c
 induction c with
 | zero=>exact fun _=>h
 | succ c ih=>exact fun hc=>(ih (by omega)).step (by omega)
end Go.Proofs.YthilnfgnpdeofaaGreatDoor
/-
 Sizes of the numbers of an elimination;pivots ascend.
-/
namespace Go.Proofs.YthilnfgnpdeofaaGreatDoor
structure SzE (n w m:Nat) (s:ES):Prop where
 R:∀ a b,a<n->b<w->Sz (7^s.cs.length*m) (s.R a b)
 det:Sz (7^s.cs.length*m) s.det
 len:s.cs.length<=n
theorem ZB.tdivS{m:Nat}{x d:Int}(h:ZB m x):ZB m (x.tdiv d):=by
 refine h.le ?_
 rw [Int.natAbs_tdiv]
 exact Nat.div_le_self _ _
theorem ZB.clr{n w k j m:Nat}{M:Nat->Nat->Int}{d:Int}(hM:∀ a b,a<n->b<w->ZB m (M a b))(hk:k<n)(hj:j<w){a b:Nat}(ha:a<n)(hb:b<w):ZB (2*m+1) (clr M k j d a b):=by
 unfold Go.Proofs.YthilnfgnpdeofaaGreatDoor.clr
 split
 ·exact (hM k b hk hb).mono (by omega)
 ·refine ZB.tdivS ?_
  have h1:=(hM k j hk hj).mul (hM a b ha hb)
  have h2:=(hM a j ha hj).mul (hM k b hk hb)
  exact (h1.sub h2).mono (by omega)
theorem rowP_le(n c:Nat)(s:PS)(h:s.cs.length<=n):s.cs.length<=rowP n c s/\rowP n c s<=n:=by
 have:=fnd_le (fun i=>decide (s.M i c≠0)) (n-s.cs.length) s.cs.length
 unfold rowP
 omega
structure ZbP (n w m l:Nat) (s:PS):Prop where
 M:∀ a b,a<n->b<w->ZB (3^s.cs.length*m) (s.M a b)
 last:ZB (3^s.cs.length*m) s.last
 S:∀ a,a<n->Sz l (s.S a)
 len:s.cs.length<=n
theorem pow3_pos(k m:Nat)(hm:1<=m):1<=3^k*m:=by
 have:0<3^k:=Nat.pow_pos (by decide)
 exact Nat.mul_pos this hm
theorem ZbP.step{n w m l c:Nat}{s:PS}(h:ZbP n w m l s)(hm:1<=m)(hc:c<w):ZbP n w m l (stepP n c s):=by
 have hr:=rowP_le n c s h.len
 have h1:=pow3_pos s.cs.length m hm
 unfold stepP
 by_cases hx:rowP n c s<n
 ·rw [if_pos hx]
  have hk:s.cs.length<n:=by omega
  have e:(s.cs++[c]).length=s.cs.length+1:=by simp
  have e3:3^(s.cs.length+1)*m=3*(3^s.cs.length*m):=by rw [Nat.pow_succ,Nat.mul_comm (3^s.cs.length) 3,Nat.mul_assoc]
  refine ⟨fun a b ha hb=>?_,?_,fun a ha=>h.S _ (xch_lt hk hx ha),?_⟩
  ·show ZB (3^(s.cs++[c]).length*m) _
   rw [e,e3]
   exact (ZB.clr (n:=n) (w:=w) (fun a b ha hb=>h.M _ b (xch_lt hk hx ha) hb) hk hc ha hb).mono (by omega)
  ·show ZB (3^(s.cs++[c]).length*m) (s.M (rowP n c s) c)
   rw [e,e3]
   exact (h.M _ c hx hc).mono (by omega)
  ·show (s.cs++[c]).length<=n
   omega
 ·rw [if_neg hx];exact h
theorem ZbP.run{n w m l:Nat}{s:PS}(h:ZbP n w m l s)(hm:1<=m):∀ c,c<=w->ZbP n w m l (runP n s c):=by
 intro c
 induction c with
 | zero=>exact fun _=>h
 | succ c ih=>exact fun hc=>(ih (by omega)).step hm (by omega)
structure Asc (l:List Nat) (c:Nat):Prop where
 lt:∀ x∈l,x<c
 asc:l.Pairwise (· < ·)
end Go.Proofs.YthilnfgnpdeofaaGreatDoor
/-
 Lists of numbers read and written: ReadAll,Strings,Nums,Texts;the common denominator;a number scaled.
-/
namespace Go.Proofs.YthilnfgnpdeofaaGreatDoor
open Go
set_option maxRecDepth 20000
theorem iAt0(z:Int)(l:List Value):iAt (I z::l) 0=z:=rfl
theorem tRats_cell:Tryz.prog.cellsOf ty_tRats_e=4/\(Tryz.prog.info? ty_tRats_e).isSome=true:=tRats_one
theorem tRqs_cell:Tryz.prog.cellsOf ty_tRqs_e=4/\(Tryz.prog.info? ty_tRqs_e).isSome=true:=tRqs_one
section
variable {α β:Type} [E:Enc α] {R:Heap->α->β->Prop}
def OwnK(R:Heap->α->β->Prop)(h h':Heap)(b n k:Nat)(f:Nat->β):Prop:=∃ g o xs,h.le g/\Sep h' g o/\RowX o b xs/\xs.length=n/\Row R g xs k f
theorem OwnK.own{h h':Heap}{b n:Nat}{f:Nat->β}(w:OwnK R h h' b n n f):Own R h h' b n f:=⟨w⟩
theorem OwnK.le{h h':Heap}{b n k:Nat}{f:Nat->β}(w:OwnK R h h' b n k f):h.le h':=by
 obtain ⟨g,o,xs,l,s,_⟩:=w
 exact Heap.le_trans l s.le
theorem OwnK.zero{h:Heap}{b n:Nat}{f:Nat->β}{e:TypeId}{z:α}(hb:h b=none):OwnK R h (blkF e h b (List.replicate n z)) b n 0 f:=
 ⟨h,noHeap.put b (.cells ((List.replicate n z).flatMap enc).toArray e),List.replicate n z,Heap.le_refl _,Sep.single hb,RowX.mk,by simp,Row.nil⟩
theorem OwnK.store(m:Mon R){P:Program}{t:TypeId}(one:P.cellsOf t=E.default.size/\(P.info? t).isSome=true){h h' g g' o:Heap}{b n k:Nat}{f:Nat->β}{xs:List α}(lg:h.le g)(lg':g.le g')(s:Sep h' g' o)(rb:RowX o b xs)(hn:xs.length=n)(r:Row R g xs k f)(hk:k<n){v:Value}{y:α}(hv:v.cells=(enc y).toArray)(hy:R g' y (f k)){K:Unit->Heap->Prop}
 (x:∀ h2,OwnK R h h2 b n (k+1) f->K () h2):wpH P (Instr.storeAt t (.pointer (some (Addr.add ⟨b,0,none⟩ (k*E.default.size)))) v) K h':=by
 refine Sep.storeX one hv s rb (by omega) ?_
 intro h2 o' x' e s2 r2
 exact x h2 ⟨g',o',_,Heap.le_trans lg lg',s2,r2,by simpa using hn,(r.mono m lg').set (by omega) hy⟩
end
def zeroQ:QV:=⟨false,none,0,0,false,none,0,0⟩
section
variable {h:Heap} {K:Value->Heap->Prop} {A:Option Addr} {n c m:Nat} {ls:Nat->List UInt8} {f:Nat->Rat} {a w:QV} {q:Rat}
theorem readAll_spec(gl:Gl h)(r:RowV SSr h A n ls)(hn:n<=1000000)(hl:∀ i,i<n->(ls i).length<=100000000)
 (hK1:(∀ i,i<n->IsNum (ls i))->∀ b h',Own RQr h h' b n (fun i=>rv (ls i))->K (.tuple #[.slice (some ⟨b,0,none⟩) n n,.bool true]) h')
 (hK0:¬ (∀ i,i<n->IsNum (ls i))->∀ h',h.le h'->K (.tuple #[.slice none 0 0,.bool false]) h'):FCall Tryz.prog f_TReadAll #[.slice A n c] h K:=by
 refine TReadAll_ok _ _ _ ?_
 unfold TReadAll
 refine makeF_ok tRqs (zx:=zeroQ) rfl (by omega) (by omega) (by omega) (by omega) ?_
 intro b hb
 refine ⟨_,_,_,rfl,fun L hp=>∃ k:Nat,k<=n/\L=[I k]/\(∀ i,i<k->IsNum (ls i))/\OwnK RQr h hp b n k (fun i=>rv (ls i)),fun L _=>n-(iAt L 0).toNat,⟨0,by omega,rfl,fun i hi=>by omega,OwnK.zero hb⟩,?_⟩
 rintro t hp ⟨k,hk,eL,hnum,g,o,xs,lg,s,rb,hx,rr⟩
 obtain rfl:t=(k:Int):=by simpa using eL
 refine Br.dec (fun hlt=>?_) (fun hge=>?_)
 ·have hkn:k<n:=by omega
  obtain ⟨a,rfl,hc⟩:=(r.mono monSS (Heap.le_trans lg s.le)).sat hkn
  refine ⟨a,rfl,by omega,by omega,_,hc,?_⟩
  refine s.call (read'_spec (gl.mono lg).tz (hl k hkn) ?_ ?_)
  ·intro q e w g' l' iw h2 s2
   refine ⟨_,_,_,_,_,_,_,_,_,rfl,_,rfl,by omega,by simpa using hlt,?_⟩
   refine OwnK.store monRQ tRqs_cell (y:=w) lg l' s2 rb hx rr hkn rfl (by show RQ g' w (rv (ls k));rw [e,rv_txt];exact iw) ?_
   intro h3 ow
   rw [show wi64 ((k:Int)+1)=((k+1:Nat):Int) by rw [wi64_id]<;>omega]
   refine ⟨⟨k+1,by omega,rfl,fun i hi=>?_,ow⟩,?_⟩
   ·by_cases e':i=k
    ·subst e';exact ⟨q,e⟩
    ·exact hnum i (by omega)
   ·simp only [iAt0];omega
  ·intro hno w g' l' _ h2 s2
   exact ⟨_,_,_,_,_,_,_,_,_,rfl,hK0 (fun hall=>hno (hall k hkn)) h2 (Heap.le_trans lg (Heap.le_trans l' s2.le))⟩
 ·have:k=n:=by omega
  subst this
  exact hK1 hnum b hp ⟨g,o,xs,lg,s,rb,hx,rr⟩
theorem strings_spec(gl:Gl h)(r:RowV RQr h A n f)(hn:n<=1000000)(hs:∀ i,i<n->Sz m (f i))(hm:m<=40000000)
 (hK:∀ b h',Own SSr h h' b n (fun i=>txtQ (f i))->K (.slice (some ⟨b,0,none⟩) n n) h'):FCall Tryz.prog f_TStrings #[.slice A n c] h K:=by
 refine TStrings_ok _ _ _ ?_
 unfold TStrings
 refine makeF_ok tStrings (zx:=([]:List UInt8)) rfl (by omega) (by omega) (by omega) (by omega) ?_
 intro b hb
 refine ⟨_,_,_,rfl,fun L hp=>∃ k:Nat,k<=n/\L=[I k]/\OwnK SSr h hp b n k (fun i=>txtQ (f i)),fun L _=>n-(iAt L 0).toNat,⟨0,by omega,rfl,OwnK.zero hb⟩,?_⟩
 rintro t hp ⟨k,hk,eL,g,o,xs,lg,s,rb,hx,rr⟩
 obtain rfl:t=(k:Int):=by simpa using eL
 refine Br.dec (fun hlt=>?_) (fun hge=>?_)
 ·have hkn:k<n:=by omega
  obtain ⟨a,w,rfl,iw,d0,d1,d2,d3⟩:=(r.mono monRQ lg).qat hkn
  refine ⟨_,rfl,by omega,by omega,_,_,_,_,_,_,_,_,Heap.cell?_le s.le d0,Heap.cell?_le s.le d1,Heap.cell?_le s.le d2,Heap.cell?_le s.le d3,?_⟩
  refine s.call (rstring_spec (gl.mono lg).p10 iw (hs k hkn) hm ?_)
  intro h2 s2
  refine ⟨_,rfl,_,rfl,by omega,by simpa using hlt,?_⟩
  refine OwnK.store monSS tStrings_one (y:=txtQ (f k)) lg (Heap.le_refl _) s2 rb hx rr hkn rfl rfl ?_
  intro h3 ow
  rw [show wi64 ((k:Int)+1)=((k+1:Nat):Int) by rw [wi64_id]<;>omega]
  exact ⟨⟨k+1,by omega,rfl,ow⟩,by simp only [iAt0];omega⟩
 ·have:k=n:=by omega
  subst this
  exact hK b hp ⟨g,o,xs,lg,s,rb,hx,rr⟩
theorem nums_spec(r:RowV SSr h A n ls)(hn:n<=1000000)(hl:∀ i,i<n->(ls i).length<=100000000)
 (hK1:(∀ i,i<n->IsNum (ls i))->∀ b h',Own NQr h h' b n (fun i=>rv (ls i))->K (.tuple #[.slice (some ⟨b,0,none⟩) n n,.bool true]) h')
 (hK0:¬ (∀ i,i<n->IsNum (ls i))->∀ h',h.le h'->K (.tuple #[.slice none 0 0,.bool false]) h'):FCall Tryz.prog f_NNums #[.slice A n c] h K:=by
 refine NNums_ok _ _ _ ?_
 unfold NNums
 refine makeF_ok tRats (zx:=zeroQ) rfl (by omega) (by omega) (by omega) (by omega) ?_
 intro b hb
 refine ⟨_,_,_,rfl,fun L hp=>∃ k:Nat,k<=n/\L=[I k]/\(∀ i,i<k->IsNum (ls i))/\OwnK NQr h hp b n k (fun i=>rv (ls i)),fun L _=>n-(iAt L 0).toNat,⟨0,by omega,rfl,fun i hi=>by omega,OwnK.zero hb⟩,?_⟩
 rintro t hp ⟨k,hk,eL,hnum,g,o,xs,lg,s,rb,hx,rr⟩
 obtain rfl:t=(k:Int):=by simpa using eL
 refine Br.dec (fun hlt=>?_) (fun hge=>?_)
 ·have hkn:k<n:=by omega
  obtain ⟨a,rfl,hc⟩:=(r.mono monSS (Heap.le_trans lg s.le)).sat hkn
  refine ⟨a,rfl,by omega,by omega,_,hc,?_⟩
  refine s.call (read_spec (hl k hkn) ?_ ?_)
  ·intro q e w g' l' iw h2 s2
   refine ⟨_,_,_,_,_,_,_,_,_,rfl,_,rfl,by omega,by simpa using hlt,?_⟩
   refine OwnK.store monNQ tRats_cell (y:=w) lg l' s2 rb hx rr hkn rfl (by show NQ g' w (rv (ls k));rw [e,rv_txt];exact iw) ?_
   intro h3 ow
   rw [show wi64 ((k:Int)+1)=((k+1:Nat):Int) by rw [wi64_id]<;>omega]
   refine ⟨⟨k+1,by omega,rfl,fun i hi=>?_,ow⟩,?_⟩
   ·by_cases e':i=k
    ·subst e';exact ⟨q,e⟩
    ·exact hnum i (by omega)
   ·simp only [iAt0];omega
  ·intro hno w g' l' h2 s2
   exact ⟨_,_,_,_,_,_,_,_,_,rfl,hK0 (fun hall=>hno (hall k hkn)) h2 (Heap.le_trans lg (Heap.le_trans l' s2.le))⟩
 ·have:k=n:=by omega
  subst this
  exact hK1 hnum b hp ⟨g,o,xs,lg,s,rb,hx,rr⟩
theorem texts_spec(r:RowV NQr h A n f)(hn:n<=1000000)(hs:∀ i,i<n->Sz m (f i))(hm:m<=1000000000)
 (hK:∀ b h',Own SSr h h' b n (fun i=>txtQ (f i))->K (.slice (some ⟨b,0,none⟩) n n) h'):FCall Tryz.prog f_NTexts #[.slice A n c] h K:=by
 refine NTexts_ok _ _ _ ?_
 unfold NTexts
 refine makeF_ok tStrings (zx:=([]:List UInt8)) rfl (by omega) (by omega) (by omega) (by omega) ?_
 intro b hb
 refine ⟨_,_,_,rfl,fun L hp=>∃ k:Nat,k<=n/\L=[I k]/\OwnK SSr h hp b n k (fun i=>txtQ (f i)),fun L _=>n-(iAt L 0).toNat,⟨0,by omega,rfl,OwnK.zero hb⟩,?_⟩
 rintro t hp ⟨k,hk,eL,g,o,xs,lg,s,rb,hx,rr⟩
 obtain rfl:t=(k:Int):=by simpa using eL
 refine Br.dec (fun hlt=>?_) (fun hge=>?_)
 ·have hkn:k<n:=by omega
  obtain ⟨a,w,rfl,iw,d0,d1,d2,d3⟩:=(r.mono monNQ lg).qat hkn
  refine ⟨_,rfl,by omega,by omega,_,_,_,_,_,_,_,_,Heap.cell?_le s.le d0,Heap.cell?_le s.le d1,Heap.cell?_le s.le d2,Heap.cell?_le s.le d3,?_⟩
  refine s.call (text_spec iw (hs k hkn) hm ?_)
  intro h2 s2
  refine ⟨_,rfl,_,rfl,by omega,by simpa using hlt,?_⟩
  refine OwnK.store monSS tStrings_one (y:=txtQ (f k)) lg (Heap.le_refl _) s2 rb hx rr hkn rfl rfl ?_
  intro h3 ow
  rw [show wi64 ((k:Int)+1)=((k+1:Nat):Int) by rw [wi64_id]<;>omega]
  exact ⟨⟨k+1,by omega,rfl,ow⟩,by simp only [iAt0];omega⟩
 ·have:k=n:=by omega
  subst this
  exact hK b hp ⟨g,o,xs,lg,s,rb,hx,rr⟩
def lcmD(f:Nat->Rat):Nat->Nat
 | 0=>1
 | n+1=>Nat.lcm (lcmD f n) (f n).den
theorem lcmD_pos(f:Nat->Rat):∀ n,0<lcmD f n:=by
 intro n
 induction n with
 | zero=>exact Nat.one_pos
 | succ n ih=>exact Nat.lcm_pos ih (f n).den_pos
theorem lcmD_dvd(f:Nat->Rat):∀ n i,i<n->(f i).den∣lcmD f n:=by
 intro n
 induction n with
 | zero=>intro i h;omega
 | succ n ih=>
  intro i hi
  by_cases e:i=n
  ·subst e;exact Nat.dvd_lcm_right _ _
  ·exact Nat.dvd_trans (ih i (by omega)) (Nat.dvd_lcm_left _ _)
theorem ZB.lcm{k j:Nat}{x y:Nat}(hx:ZB k (x:Int))(hy:ZB j (y:Int)):ZB (k+j) ((Nat.lcm x y:Nat):Int):=by
 have:=hx.mul hy
 unfold ZB at *
 rw [Int.natAbs_natCast]
 rw [Int.natAbs_mul,Int.natAbs_natCast,Int.natAbs_natCast] at this
 refine Nat.lt_of_le_of_lt ?_ this
 unfold Nat.lcm
 exact Nat.div_le_self _ _
theorem lcmD_zb{f:Nat->Rat}{m:Nat}: ∀ n,(∀ i,i<n->Sz m (f i))->ZB (1+n*m) (lcmD f n:Int):=by
 intro n
 induction n with
 | zero=>intro _;exact ZB.one (by omega)
 | succ n ih=>
  intro h
  have:=(ih fun i hi=>h i (by omega)).lcm (h n (by omega)).den
  exact this.mono (by rw [Nat.add_mul,Nat.one_mul];omega)
theorem commonDen_spec(gl:Gl h)(r:RowV RQr h A n f)(hn:n<=1000000)(hs:∀ i,i<n->Sz m (f i))(hm:1+n*m+m<=6400000000)
 (hK:∀ s A' n' c' h',h.le h'->ZI h' s A' n' c' (lcmD f n:Int)->K (.agg #[.bool s,.slice A' n' c']) h'):FCall Tryz.prog f_TCommonDenominator #[.slice A n c] h K:=by
 refine TCommonDenominator_ok _ _ _ ?_
 unfold TCommonDenominator
 refine znew_spec (by omega) (by omega) ?_
 intro s1 A1 n1 c1 h1 l1 i1
 refine ⟨_,_,_,_,rfl,fun L hp=>∃ (k:Nat) (s:Bool) (B:Option Addr) (bn bc:Nat),k<=n/\L=[I k,.bool s,.slice B bn bc]/\h.le hp/\ZI hp s B bn bc (lcmD f k:Int),fun L _=>n-(iAt L 0).toNat,⟨0,_,_,_,_,by omega,rfl,l1,i1⟩,?_⟩
 rintro t s B bn bc hp ⟨k,s',B',bn',bc',hk,eL,l,i⟩
 simp only [List.cons.injEq,Value.int.injEq,Value.bool.injEq,Value.slice.injEq,true_and,and_true] at eL
 obtain ⟨rfl,rfl,rfl,rfl,rfl⟩:=eL
 have ew:wi64 ((k:Int)+1)=((k+1:Nat):Int):=by rw [wi64_id]<;>omega
 refine Br.dec (fun hlt=>?_) (fun hge=>?_)
 ·have hkn:k<n:=by omega
  obtain ⟨a,w,rfl,iw,d0,d1,d2,d3⟩:=(r.mono monRQ l).qat hkn
  have hmk:1+k*m<=6400000000:=by
   have:k*m<=n*m:=Nat.mul_le_mul_right _ (by omega)
   omega
  have hmk2:1+k*m+m<=6400000000:=by
   have:k*m<=n*m:=Nat.mul_le_mul_right _ (by omega)
   omega
  have bz:=(lcmD_zb k fun i hi=>hs i (by omega)).mono (show 1+k*m<=1+k*m+m by omega)
  have bd:=(hs k hkn).den.mono (show m<=1+k*m+m by omega)
  refine ⟨_,rfl,by omega,by omega,_,_,_,_,_,_,_,_,d0,d1,d2,d3,?_⟩
  refine zisZero_spec iw.den ⟨_,rfl,?_⟩
  have hd0:((if (f k).den=1 then 0 else ((f k).den:Int))=0)↔(f k).den=1:=by
   have:=(f k).den_pos
   split<;>omega
  have same:lcmD f (k+1)=lcmD f k->(∃ (k':Nat) (s':Bool) (B':Option Addr) (bn' bc':Nat),k'<=n/\[I (wi64 ((k:Int)+1)),.bool s,.slice B bn bc]=[I k',.bool s',.slice B' bn' bc']/\h.le hp/\ZI hp s' B' bn' bc' (lcmD f k':Int))/\n-(iAt [I (wi64 ((k:Int)+1)),.bool s,.slice B bn bc] 0).toNat<n-(iAt [I (k:Int),.bool s,.slice B bn bc] 0).toNat:=by
   intro e
   rw [ew]
   exact ⟨⟨k+1,_,_,_,_,by omega,rfl,l,by rw [e];exact i⟩,by simp only [iAt0];omega⟩
  refine Br.not (Br.dec (fun h1=>?_) (fun h1=>?_))
  ·have e1:=hd0.1 h1
   exact same (by rw [lcmD,e1];exact Nat.lcm_one_right _)
  ·have e1:(if (f k).den=1 then 0 else ((f k).den:Int))=((f k).den:Int):=if_neg fun e=>h1 (hd0.2 e)
   have iden:=iw.den
   rw [e1] at iden
   refine zequal_spec iden i bd hmk2 ⟨_,rfl,?_⟩
   refine Br.not (Br.dec (fun h2=>?_) (fun h2=>?_))
   ·have e2:(f k).den=lcmD f k:=by exact_mod_cast h2
    exact same (by rw [lcmD,e2];exact Nat.lcm_self _)
   ·refine zlcm_spec (gl.mono l).tz i iden bz bd hmk2 ?_
    intro A' n' c' h' l' i'
    refine ⟨_,_,_,_,rfl,?_⟩
    rw [ew]
    refine ⟨⟨k+1,_,_,_,_,by omega,rfl,Heap.le_trans l l',?_⟩,by simp only [iAt0];omega⟩
    have:Int.lcm (lcmD f k:Int) ((f k).den:Int)=lcmD f (k+1):=by simp [Int.lcm,lcmD]
    rw [this] at i';exact i'
 ·have:k=n:=by omega
  subst this
  exact hK _ _ _ _ hp l i
def scl(q:Rat)(d:Int):Int:=q.num*d.tdiv q.den
theorem mul_den(q:Rat):q*(q.den:Rat)=(q.num:Rat):=by
 have h:=Rat.num_divInt_den q
 rw [Rat.divInt_eq_div] at h
 have hd:((q.den:Int):Rat)≠0:=ratCast_ne (den_ne q)
 have e:((q.den:Int):Rat)=(q.den:Rat):=rfl
 rw [<- e]
 calc q*((q.den:Int):Rat)=(q.num:Rat)/((q.den:Int):Rat)*((q.den:Int):Rat):=by rw [h]
  _=q.num:=Rat.div_mul_cancel hd
theorem scl_eq{q:Rat}{d:Int}(h:(q.den:Int)∣d):(scl q d:Rat)=q*d:=by
 obtain ⟨e,rfl⟩:=h
 unfold scl
 rw [Int.mul_tdiv_cancel_left _ (den_ne q),Rat.intCast_mul,Rat.intCast_mul]
 have h1:q*(q.den:Rat)=(q.num:Rat):=mul_den q
 have h2:(((q.den:Nat):Int):Rat)=(q.den:Rat):=rfl
 rw [h2,<- h1,Rat.mul_assoc]
theorem scl_zb{q:Rat}{d:Int}{k:Nat}(hq:Sz m q)(hd:ZB k d):ZB (m+k) (scl q d):=hq.num.mul hd.tdiv
theorem scaled_spec{s:Bool}{B:Option Addr}{bn bc:Nat}{d:Int}(i:RQ h w q)(j:ZI h s B bn bc d)(hq:Sz m q)(hd:ZB m d)(hm:m<=6400000000)
 (hK:∀ s A' n' c' h',h.le h'->ZI h' s A' n' c' (scl q d)->K (.agg #[.bool s,.slice A' n' c']) h'):FCall Tryz.prog f_RScaled #[w.v,.agg #[.bool s,.slice B bn bc]] h K:=by
 refine RScaled_ok _ _ _ _ _ _ _ _ _ _ _ _ ?_
 unfold RScaled
 refine zisZero_spec i.den ⟨_,rfl,?_⟩
 have hd0:((if q.den=1 then 0 else (q.den:Int))=0)↔q.den=1:=by
  have:=q.den_pos
  split<;>omega
 refine Br.dec (fun h1=>?_) (fun h1=>?_)
 ·have e1:=hd0.1 h1
  refine zmul_spec i.num j hq.num hd hm ?_
  intro s1 A' n' c' h' l' i'
  refine ⟨_,_,_,_,rfl,hK _ _ _ _ _ l' ?_⟩
  have:scl q d=q.num*d:=by unfold scl;rw [e1];simp
  rw [this];exact i'
 ·have e1:(if q.den=1 then 0 else (q.den:Int))=(q.den:Int):=if_neg fun e=>h1 (hd0.2 e)
  have iden:=i.den
  rw [e1] at iden
  refine zquo_spec j iden hd hq.den hm (den_ne q) ?_
  intro s1 A1 n1 c1 h1' l1 i1
  refine ⟨_,_,_,_,rfl,l1,?_⟩
  refine zmul_spec (i.num.mono l1) i1 hq.num hd.tdiv hm ?_
  intro s2 A2 n2 c2 h2 l2 i2
  exact ⟨_,_,_,_,rfl,l2,hK _ _ _ _ _ (Heap.le_trans l1 l2) i2⟩
end
end Go.Proofs.YthilnfgnpdeofaaGreatDoor
/-
 Slices of one's own that grow beside other things of one's own;the table of an elimination in memory: reading and writing its parts.
-/
namespace Go.Proofs.YthilnfgnpdeofaaGreatDoor
open Go
set_option maxRecDepth 20000
instance:Enc Int:=⟨⟨fun z=>[I z],1,fun _=>rfl,fun z v hv=>by rw [List.mem_singleton.1 hv];rfl⟩⟩
abbrev IIr:Heap->Int->Int->Prop:=fun _ w z=>w=z
section
variable {α:Type} [E:Enc α]
def OwnSl(o:Heap)(e:TypeId)(A:Option Addr)(c:Nat)(xs:List α):Prop:=
 xs.length<=c/\((c=0/\A=none)\/∃ b arr,A=some ⟨b,0,none⟩/\o b=some (.cells (List.toArray arr) e)/\arr.length=c*E.default.size/\arr.take (xs.length*E.default.size)=xs.flatMap enc)
theorem OwnSl.nil{o:Heap}{e:TypeId}:OwnSl o e none 0 ([]:List α):=⟨Nat.le_refl _,.inl ⟨rfl,rfl⟩⟩
theorem OwnSl.keep{o o':Heap}{e:TypeId}{A:Option Addr}{c:Nat}{xs:List α}(w:OwnSl o e A c xs)(h:∀ b x,A=some ⟨b,0,none⟩->o b=some x->o' b=some x):OwnSl o' e A c xs:=by
 refine ⟨w.1,?_⟩
 rcases w.2 with h0|⟨b,arr,hA,hb,h1,h2⟩
 ·exact .inl h0
 ·exact .inr ⟨b,arr,hA,h b _ hA hb,h1,h2⟩
theorem OwnSl.rowB{o:Heap}{e:TypeId}{A:Option Addr}{c:Nat}{xs:List α}(w:OwnSl o e A c xs)(hne:xs≠[]):∃ b,A=some ⟨b,0,none⟩/\RowB o b xs:=by
 rcases w.2 with h0|⟨b,arr,hA,hb,h1,h2⟩
 ·exfalso
  have:=w.1
  have:=h0.1
  have:xs.length≠0:=fun h=>hne (List.eq_nil_of_length_eq_zero h)
  omega
 ·exact ⟨b,hA,e,arr.drop (xs.length*E.default.size),by rw [hb,<- h2,List.take_append_drop]⟩
theorem OwnSl.slF{o h:Heap}{e:TypeId}{A:Option Addr}{c:Nat}{xs:List α}(w:OwnSl o e A c xs)(hl:o.le h):SlF h A xs:=by
 by_cases hne:xs=[]
 ·rw [hne];exact SlF.nil
 ·obtain ⟨b,rfl,r⟩:=w.rowB hne
  exact r.slF hl
theorem OwnSl.priv{h g o:Heap}{e:TypeId}{A:Option Addr}{c:Nat}{xs:List α}(s:Sep h g o)(w:OwnSl o e A c xs):∃ gb,PrivF h gb e A c xs/\∀ k x,h k=some x->A≠some ⟨k,0,none⟩->gb k=some x:=by
 rcases w.2 with ⟨h0,h00⟩|⟨b,arr,hA,hb,h1,h2⟩
 ·subst h0
  have hx:xs=[]:=List.eq_nil_of_length_eq_zero (by have:=w.1;omega)
  subst hx
  exact ⟨h,PrivF.nil h e A,fun k x e _=>e⟩
 ·refine ⟨h.without b,⟨flat_len xs,w.1,.inr ⟨b,arr,hA,Heap.without_none _ _,(Heap.put_without (s.own b _ hb)).symm,h1,h2⟩⟩,fun k x e hne=>?_⟩
  unfold Heap.without
  rw [if_neg]
  ·exact e
  ·rintro rfl;exact hne hA
theorem OwnSl.push{P:Program}{t e ty:TypeId}{z:Value}{bytes:Nat}(st:SliceT P t e z E.default.size bytes){h g o:Heap}{A:Option Addr}{c:Nat}{xs:List α}(s:Sep h g o)(w:OwnSl o e A c xs){v:Value}{y:α}(hv:v.cells=(enc y).toArray)(hsz:E.default.size<=1000)
 (hb:(2*(xs.length+1)+192)*bytes<=281474976710656) (hn:xs.length+1<=9223372036854775807) {K1:Heap->Prop} {K:Option Addr->Nat->Nat->Heap->Prop}
 (x0:∀ h1,h.le h1->K1 h1)
 (x:∀ A' c' h' g' o',g.le g'->Sep h' g' o'->OwnSl o' e A' c' (xs++[y])->(∀ k u,o k=some u->A≠some ⟨k,0,none⟩->o' k=some u/\A'≠some ⟨k,0,none⟩)->K A' (xs.length+1) c' h'):
 wpH P (Instr.buildSlice t 1 #[(0,v)]) (fun v' hp=>∃ (B:Option Addr) (m d:Nat),v'= .slice B m d/\K1 hp/\wpH P (Builtin.append_ #[t,t] ty #[.slice A xs.length c,.slice B m d]) (fun v1 hp1=>∃ (A':Option Addr) (n' c':Nat),v1= .slice A' n' c'/\K A' n' c' hp1) hp) h:=by
 obtain ⟨gb,p,hkeep⟩:=w.priv s
 refine litAll_ok st (vs:=[v]) (fun u hu=>by rw [List.mem_singleton.1 hu,hv];simp [E.default.len]) rfl (by simp;omega) rfl ?_
 intro b hfree
 have hfl:[v].flatMap (fun v=>v.cells.toList)=[y].flatMap enc:=by simp [hv]
 rw [hfl]
 refine ⟨_,_,_,rfl,x0 _ (Heap.le_put _ hfree),?_⟩
 have p':PrivF (h.put b (.cells ([y].flatMap enc).toArray e)) (gb.put b (.cells ([y].flatMap enc).toArray e)) e A c xs:=Priv.put p hfree _
 refine appendF_ok st p' (ys:=[y]) rfl (blkF_sl e h b [y]) hb hn ?_
 intro A' c' h' g' hg hp
 refine ⟨_,_,_,rfl,?_⟩
 rw [List.length_append]
 have hgk:∀ k u,h k=some u->A≠some ⟨k,0,none⟩->g' k=some u:=by
  intro k u e1 hne
  have hkb:k≠b:=by rintro rfl;rw [hfree] at e1;cases e1
  exact hg k u (by rw [Heap.put_other _ _ hkb];exact hkeep k u e1 hne)
 have hnA:∀ k u,g k=some u->A≠some ⟨k,0,none⟩:=by
  intro k u e1 hA
  rcases w.2 with ⟨_,h0⟩|⟨b',arr,hA',hb',_⟩
  ·rw [hA] at h0;cases h0
  ·rw [hA] at hA'
   simp only [Option.some.injEq,Addr.mk.injEq,and_true] at hA'
   subst hA'
   rw [s.dis k _ hb'] at e1;cases e1
 rcases hp.2.2 with ⟨hc0,_⟩|⟨b',arr,hA',hb',hh',ha,ht⟩
 ·exfalso
  have:=hp.2.1
  rw [List.length_append] at this
  simp at this
  omega
 ·subst hA'
  let o':Heap:=fun k=>if k=b' then some (.cells (List.toArray arr) e) else if A=some ⟨k,0,none⟩ then none else o k
  have ob:o' b'=some (.cells (List.toArray arr) e):=by show (if b'=b' then _ else _)=_;rw [if_pos rfl]
  have ok:∀ k,k≠b'->A≠some ⟨k,0,none⟩->o' k=o k:=fun k h1 h2=>by show (if k=b' then _ else if _ then _ else _)=_;rw [if_neg h1,if_neg h2]
  have ono:∀ k,k≠b'->A=some ⟨k,0,none⟩->o' k=none:=fun k h1 h2=>by show (if k=b' then _ else if _ then _ else _)=_;rw [if_neg h1,if_pos h2]
  let g2:Heap:=fun k=>match o' k with|some _=>none|none=>h' k
  have gs:∀ k u,o' k=some u->g2 k=none:=fun k u e1=>by show (match o' k with|some _=>none|none=>h' k)=_;rw [e1]
  have gn:∀ k,o' k=none->g2 k=h' k:=fun k e1=>by show (match o' k with|some _=>none|none=>h' k)=_;rw [e1]
  have hput:∀ k u,k≠b'->g' k=some u->h' k=some u:=fun k u h1 e1=>by rw [hh',Heap.put_other _ _ h1];exact e1
  have hown:∀ k u,o k=some u->A≠some ⟨k,0,none⟩->k≠b':=by
   rintro k u e1 h2 rfl
   have:=hgk k u (s.own k u e1) h2
   rw [hb'] at this;cases this
  refine x _ c' h' g2 o' (fun k u e1=>?_) ⟨fun k u e1=>?_,fun k e1=>(gn k e1).symm,gs⟩ ⟨hp.2.1,.inr ⟨b',arr,rfl,ob,ha,ht⟩⟩ (fun k u e1 h2=>?_)
  ·have hk0:o k=none:=by
    cases ho:o k with
    | none=>rfl
    | some y=>rw [s.dis k y ho] at e1;cases e1
   have hA:=hnA k u e1
   have e3:=hgk k u (s.le k u e1) hA
   have hkb':k≠b':=by rintro rfl;rw [hb'] at e3;cases e3
   rw [gn k (by rw [ok k hkb' hA];exact hk0)]
   exact hput k u hkb' e3
  ·by_cases hkb:k=b'
   ·subst hkb
    rw [ob] at e1;cases e1
    rw [hh',Heap.put_same]
   ·by_cases hA:A=some ⟨k,0,none⟩
    ·rw [ono k hkb hA] at e1;cases e1
    ·rw [ok k hkb hA] at e1
     exact hput k u hkb (hgk k u (s.own k u e1) hA)
  ·have hkb:=hown k u e1 h2
   refine ⟨by rw [ok k hkb h2];exact e1,fun h3=>hkb ?_⟩
   simp only [Option.some.injEq,Addr.mk.injEq,and_true] at h3
   exact h3.symm
end
end Go.Proofs.YthilnfgnpdeofaaGreatDoor
/-
 The table of an elimination in memory: reading and writing its parts;Row,find,Swap,Clear.
-/
namespace Go.Proofs.YthilnfgnpdeofaaGreatDoor
open Go
set_option maxRecDepth 20000
structure Tb where
 bt:Nat
 bE:Nat
 bS:Nat
 rows:Nat
 cols:Nat
 cE:Nat
 cS:Nat
structure Tab (h g o:Heap) (T:Tb) (M:Nat->Nat->Int) (S:Nat->Rat):Prop where
 sep:Sep h g o
 n1:T.bt≠T.bE
 n2:T.bt≠T.bS
 n3:T.bE≠T.bS
 head:∃ e,o T.bt=some (.cells #[I T.cols,.slice (some ⟨T.bE,0,none⟩) (T.rows*T.cols) T.cE,.slice (some ⟨T.bS,0,none⟩) T.rows T.cS] e)
 elems:∃ ws:List IV,RowB o T.bE ws/\ws.length=T.rows*T.cols/\∀ i j,i<T.rows->j<T.cols->∃ w,ws[i*T.cols+j]? = some w/\ZIr g w (M i j)
 scales:∃ ss:List QV,RowB o T.bS ss/\ss.length=T.rows/\Row RQr g ss T.rows S
 cE:T.rows*T.cols<=T.cE
 cS:T.rows<=T.cS
 small:T.rows<=10000/\T.cols<=10000
 pos:0<T.cols
def updM(M:Nat->Nat->Int)(i j:Nat)(z:Int):Nat->Nat->Int:=fun a b=>if a=i/\b=j then z else M a b
theorem idx_lt{rows cols i j:Nat}(hi:i<rows)(hj:j<cols):i*cols+j<rows*cols:=by
 have:(i+1)*cols<=rows*cols:=Nat.mul_le_mul_right _ hi
 rw [Nat.add_mul,Nat.one_mul] at this
 omega
theorem idx_inj{cols i j i' j':Nat}(hj:j<cols)(hj':j'<cols)(h:i*cols+j=i'*cols+j'):i=i'/\j=j':=by
 have h1:(i*cols+j)/cols=i:=by rw [Nat.mul_comm,Nat.mul_add_div (by omega),Nat.div_eq_of_lt hj,Nat.add_zero]
 have h2:(i'*cols+j')/cols=i':=by rw [Nat.mul_comm,Nat.mul_add_div (by omega),Nat.div_eq_of_lt hj',Nat.add_zero]
 have:i=i':=by rw [<- h1,<- h2,h]
 subst this
 exact ⟨rfl,by omega⟩
section
variable {h g o:Heap} {T:Tb} {M:Nat->Nat->Int} {S:Nat->Rat} {K:Value->Heap->Prop} {m:Nat}
theorem Tab.next(t:Tab h g o T M S){h' g':Heap}(s:Sep h' g' o)(l:g.le g'):Tab h' g' o T M S:=by
 refine ⟨s,t.n1,t.n2,t.n3,t.head,?_,?_,t.cE,t.cS,t.small,t.pos⟩
 ·obtain ⟨ws,r,hl,hw⟩:=t.elems
  refine ⟨ws,r,hl,fun i j hi hj=>?_⟩
  obtain ⟨w,e,hz⟩:=hw i j hi hj
  exact ⟨w,e,monZI _ _ _ _ l hz⟩
 ·obtain ⟨ss,r,hl,hw⟩:=t.scales
  exact ⟨ss,r,hl,hw.mono monRQ l⟩
theorem Tab.congr(t:Tab h g o T M S){M':Nat->Nat->Int}{S':Nat->Rat}(hM:∀ i j,i<T.rows->j<T.cols->M i j=M' i j)(hS:∀ i,i<T.rows->S i=S' i):Tab h g o T M' S':=by
 refine ⟨t.sep,t.n1,t.n2,t.n3,t.head,?_,?_,t.cE,t.cS,t.small,t.pos⟩
 ·obtain ⟨ws,r,hl,hw⟩:=t.elems
  refine ⟨ws,r,hl,fun i j hi hj=>?_⟩
  rw [<- hM i j hi hj];exact hw i j hi hj
 ·obtain ⟨ss,r,hl,hw⟩:=t.scales
  exact ⟨ss,r,hl,hw.congr hS⟩
theorem Tab.c0(t:Tab h g o T M S):h.cell? (Addr.add ⟨T.bt,0,none⟩ 0)=some (I T.cols):=by
 obtain ⟨e,he⟩:=t.head
 refine t.sep.cell ?_
 rw [add_at];unfold Heap.cell?;simp only [he];rfl
theorem Tab.c1(t:Tab h g o T M S):h.cell? (Addr.add ⟨T.bt,0,none⟩ 1)=some (.slice (some ⟨T.bE,0,none⟩) (T.rows*T.cols) T.cE):=by
 obtain ⟨e,he⟩:=t.head
 refine t.sep.cell ?_
 rw [add_at];unfold Heap.cell?;simp only [he];rfl
theorem Tab.c2(t:Tab h g o T M S):h.cell? (Addr.add ⟨T.bt,0,none⟩ 2)=some (.slice (some ⟨T.bS,0,none⟩) T.rows T.cS):=by
 obtain ⟨e,he⟩:=t.head
 refine t.sep.cell ?_
 rw [add_at];unfold Heap.cell?;simp only [he];rfl
theorem Tab.at(t:Tab h g o T M S){i j:Nat}(hi:i<T.rows)(hj:j<T.cols):∃ w:IV,ZIr g w (M i j)/\h.cell? (Addr.add (Addr.add ⟨T.bE,i*T.cols*2,none⟩ (j*2)) 0)=some (.bool w.s)/\h.cell? (Addr.add (Addr.add ⟨T.bE,i*T.cols*2,none⟩ (j*2)) 1)=some (.slice w.A w.n w.c):=by
 obtain ⟨ws,r,hl,hw⟩:=t.elems
 obtain ⟨w,e,hz⟩:=hw i j hi hj
 have hlt:=idx_lt hi hj
 have he:ws[i*T.cols+j]=w:=by
  rw [List.getElem?_eq_getElem (by omega)] at e
  cases e;rfl
 have ha:i*T.cols*2+j*2=(i*T.cols+j)*2:=by rw [Nat.add_mul]
 refine ⟨w,hz,t.sep.cell ?_,t.sep.cell ?_⟩
 ·rw [add_at,add_at,ha]
  exact r.cell (i:=i*T.cols+j) (by omega) (j:=0) (v:=.bool w.s) (by rw [he];rfl)
 ·rw [add_at,add_at,ha]
  exact r.cell (i:=i*T.cols+j) (by omega) (j:=1) (v:=.slice w.A w.n w.c) (by rw [he];rfl)
theorem Tab.ato(t:Tab h g o T M S){i j:Nat}(hi:i<T.rows)(hj:j<T.cols):∃ w:IV,ZIr g w (M i j)/\o.cell? (Addr.add (Addr.add ⟨T.bE,i*T.cols*2,none⟩ (j*2)) 0)=some (.bool w.s)/\o.cell? (Addr.add (Addr.add ⟨T.bE,i*T.cols*2,none⟩ (j*2)) 1)=some (.slice w.A w.n w.c):=by
 obtain ⟨ws,r,hl,hw⟩:=t.elems
 obtain ⟨w,e,hz⟩:=hw i j hi hj
 have hlt:=idx_lt hi hj
 have he:ws[i*T.cols+j]=w:=by
  rw [List.getElem?_eq_getElem (by omega)] at e
  cases e;rfl
 have ha:i*T.cols*2+j*2=(i*T.cols+j)*2:=by rw [Nat.add_mul]
 refine ⟨w,hz,?_,?_⟩
 ·rw [add_at,add_at,ha]
  exact r.cell (i:=i*T.cols+j) (by omega) (j:=0) (v:=.bool w.s) (by rw [he];rfl)
 ·rw [add_at,add_at,ha]
  exact r.cell (i:=i*T.cols+j) (by omega) (j:=1) (v:=.slice w.A w.n w.c) (by rw [he];rfl)
theorem Sep.le_le{h' g':Heap}(s:Sep h g o)(s':Sep h' g' o)(l:g.le g'):h.le h':=fun k x e=>by
 cases ho:o k with
 | some y=>rw [s.own k y ho] at e;rw [s'.own k y ho];exact e
 | none=>rw [s.rest k ho] at e;rw [s'.rest k ho];exact l k x e
theorem Tab.sat(t:Tab h g o T M S){i:Nat}(hi:i<T.rows):∃ w:QV,RQ g w (S i)/\h.cell? (Addr.add (Addr.add ⟨T.bS,0,none⟩ (i*4)) 0)=some (.bool w.s)/\h.cell? (Addr.add (Addr.add ⟨T.bS,0,none⟩ (i*4)) 1)=some (.slice w.A w.n w.c)/\h.cell? (Addr.add (Addr.add ⟨T.bS,0,none⟩ (i*4)) 2)=some (.bool w.s2)/\h.cell? (Addr.add (Addr.add ⟨T.bS,0,none⟩ (i*4)) 3)=some (.slice w.A2 w.n2 w.c2):=by
 obtain ⟨ss,r,hl,hw⟩:=t.scales
 obtain ⟨w,e,hz⟩:=hw i hi
 have he:ss[i]=w:=by
  rw [List.getElem?_eq_getElem (by omega)] at e
  cases e;rfl
 have cell:∀ k v,(enc w)[k]? = some v->h.cell? (Addr.add (Addr.add ⟨T.bS,0,none⟩ (i*4)) k)=some v:=by
  intro k v hk
  refine t.sep.cell ?_
  rw [add_at,add_at,Nat.zero_add]
  exact r.cell (i:=i) (by omega) (j:=k) (by rw [he];exact hk)
 exact ⟨w,hz,cell 0 _ rfl,cell 1 _ rfl,cell 2 _ rfl,cell 3 _ rfl⟩
theorem Tab.store(t:Tab h g o T M S){i j:Nat}(hi:i<T.rows)(hj:j<T.cols){w:IV}{z:Int}(hz:ZIr g w z){K:Unit->Heap->Prop}
 (x:∀ h' o',Tab h' g o' T (updM M i j z) S->(∀ k,k≠T.bE->o' k=o k)->K () h'):wpH Tryz.prog (Instr.storeAt ty_tZs_e (.pointer (some (Addr.add ⟨T.bE,i*T.cols*2,none⟩ (j*2)))) w.v) K h:=by
 obtain ⟨ws,r,hl,hw⟩:=t.elems
 have hlt:=idx_lt hi hj
 have ha:i*T.cols*2+j*2=(i*T.cols+j)*2:=by rw [Nat.add_mul]
 rw [add_at,ha]
 refine Sep.store (E:=inferInstanceAs (Enc IV)) tZs_one (v:=w.v) (y:=w) rfl t.sep r (i:=i*T.cols+j) (by omega) rfl ?_
 intro h' o' x' eo s' r'
 refine x h' o' ⟨s',t.n1,t.n2,t.n3,?_,⟨_,r',by simpa using hl,fun a b ha' hb=>?_⟩,?_,t.cE,t.cS,t.small,t.pos⟩ (fun k hk=>by rw [eo,Heap.put_other _ _ hk])
 ·obtain ⟨e,he⟩:=t.head
  exact ⟨e,by rw [eo,Heap.put_other _ _ t.n1];exact he⟩
 ·unfold updM
  by_cases e:a=i/\b=j
  ·obtain ⟨rfl,rfl⟩:=e
   exact ⟨w,by rw [List.getElem?_set_self (by omega)],by rw [if_pos ⟨rfl,rfl⟩];exact hz⟩
  ·obtain ⟨u,e1,hu⟩:=hw a b ha' hb
   refine ⟨u,?_,by rw [if_neg e];exact hu⟩
   rw [List.getElem?_set_ne (fun x=>e (by have:=idx_inj hj hb x;exact ⟨this.1.symm,this.2.symm⟩))]
   exact e1
 ·obtain ⟨ss,r2,hl2,hw2⟩:=t.scales
  exact ⟨ss,by rw [eo];exact r2.other t.n3.symm _,hl2,hw2⟩
theorem Tab.sstore(t:Tab h g o T M S){i:Nat}(hi:i<T.rows){w:QV}{q:Rat}(hz:RQ g w q){K:Unit->Heap->Prop}
 (x:∀ h' o',Tab h' g o' T M (fun a=>if a=i then q else S a)->(∀ k,k≠T.bS->o' k=o k)->K () h'):wpH Tryz.prog (Instr.storeAt ty_tRqs_e (.pointer (some (Addr.add ⟨T.bS,0,none⟩ (i*4)))) w.v) K h:=by
 obtain ⟨ss,r,hl,hw⟩:=t.scales
 rw [add_at,Nat.zero_add]
 refine Sep.store (E:=inferInstanceAs (Enc QV)) tRqs_one (v:=w.v) (y:=w) rfl t.sep r (i:=i) (by omega) rfl ?_
 intro h' o' x' eo s' r'
 refine x h' o' ⟨s',t.n1,t.n2,t.n3,?_,?_,⟨_,r',by simpa using hl,Row.upd hw (by omega) hz⟩,t.cE,t.cS,t.small,t.pos⟩ (fun k hk=>by rw [eo,Heap.put_other _ _ hk])
 ·obtain ⟨e,he⟩:=t.head
  exact ⟨e,by rw [eo,Heap.put_other _ _ t.n2];exact he⟩
 ·obtain ⟨ws,r2,hl2,hw2⟩:=t.elems
  exact ⟨ws,by rw [eo];exact r2.other t.n3 _,hl2,hw2⟩
theorem wi64_nat{n:Nat}(h:n<=9223372036854775807):wi64 (n:Int)=(n:Int):=wi64_id (by omega) (by omega)
theorem row_spec(t:Tab h g o T M S){i:Nat}(hi:i<T.rows)(hK:K (.slice (some ⟨T.bE,i*T.cols*2,none⟩) T.cols (T.cE-i*T.cols)) h):FCall Tryz.prog f_BRow #[.pointer (some ⟨T.bt,0,none⟩),I (i:Int)] h K:=by
 refine BRow_ok _ _ ?_
 unfold BRow
 have hs:=t.small
 have hc:=t.pos
 have h1:(i+1)*T.cols<=T.rows*T.cols:=Nat.mul_le_mul_right _ hi
 have h2:T.rows*T.cols<=10000*10000:=Nat.mul_le_mul hs.1 hs.2
 have h3:=t.cE
 have h4:(i+1)*T.cols=i*T.cols+T.cols:=by rw [Nat.add_mul,Nat.one_mul]
 have e1:wi64 ((i:Int)*(T.cols:Int))=((i*T.cols:Nat):Int):=by rw [<- Int.natCast_mul];exact wi64_nat (by omega)
 have e0:wi64 ((i:Int)+1)=((i+1:Nat):Int):=wi64_id (by omega) (by omega)
 have e2:wi64 (wi64 ((i:Int)+1)*(T.cols:Int))=(((i+1)*T.cols:Nat):Int):=by rw [e0,<- Int.natCast_mul];exact wi64_nat (by omega)
 refine ⟨_,rfl,_,_,_,t.c1,_,rfl,_,t.c0,_,rfl,_,t.c0,?_⟩
 rw [e1,e2]
 refine ⟨⟨by omega,by omega⟩,⟨by omega,by simp only [Int.toNat_natCast];omega⟩,?_⟩
 simp only [Int.toNat_natCast]
 rw [cutA_some (by omega),add_at,Nat.zero_add,h4,Nat.add_sub_cancel_left]
 exact hK
theorem find_spec(t:Tab h g o T M S){start col:Nat}(hs:start<=T.rows)(hc:col<T.cols)
 (hK1:fnd (fun i=>decide (M i col≠0)) (T.rows-start) start<T.rows->K (.tuple #[I ((fnd (fun i=>decide (M i col≠0)) (T.rows-start) start:Nat):Int),.bool true]) h)
 (hK0:fnd (fun i=>decide (M i col≠0)) (T.rows-start) start=T.rows->K (.tuple #[I 0,.bool false]) h):FCall Tryz.prog f_BFind #[.pointer (some ⟨T.bt,0,none⟩),I (start:Int),I (col:Int)] h K:=by
 refine BFind_ok _ _ _ ?_
 unfold BFind
 refine ⟨fun L hp=>∃ k:Nat,k<=T.rows/\L=[I k]/\hp=h/\start<=k/\∀ j,start<=j->j<k->decide (M j col≠0)=false,fun L _=>T.rows-(iAt L 0).toNat,⟨start,hs,rfl,rfl,Nat.le_refl _,fun j h1 h2=>by omega⟩,?_⟩
 rintro i hp ⟨k,hk,eL,rfl,hsk,hz⟩
 obtain rfl:i=(k:Int):=by simpa using eL
 refine ⟨_,rfl,_,_,_,t.c2,Br.dec (fun hlt=>?_) (fun hge=>?_)⟩
 ·have hkn:k<T.rows:=by omega
  refine row_spec t hkn ⟨_,_,_,rfl,_,rfl,by omega,by omega,?_⟩
  obtain ⟨w,hw,d0,d1⟩:=t.at hkn hc
  refine ⟨_,_,_,_,d0,d1,zisZero_spec (hw.mono t.sep.le) ⟨_,rfl,Br.not (Br.dec (fun e=>?_) (fun e=>?_))⟩⟩
  ·rw [show wi64 ((k:Int)+1)=((k+1:Nat):Int) by have:=t.small;rw [wi64_id]<;>omega]
   refine ⟨⟨k+1,by omega,rfl,rfl,by omega,fun j h1 h2=>?_⟩,by simp only [iAt0];omega⟩
   by_cases ej:j=k
   ·subst ej;simp [e]
   ·exact hz j h1 (by omega)
  ·have:fnd (fun i=>decide (M i col≠0)) (T.rows-start) start=k:=fnd_eq _ hsk (by omega) hz (fun _=>by simpa using e)
   rw [this] at hK1
   exact hK1 hkn
 ·have:fnd (fun i=>decide (M i col≠0)) (T.rows-start) start=T.rows:=fnd_eq _ hs (by omega) (fun j h1 h2=>hz j h1 (by omega)) (fun hx=>by omega)
  exact hK0 this
theorem swap_spec(t:Tab h g o T M S){i k:Nat}(hi:i<T.rows)(hk:k<T.rows)(hik:i≠k)
 (hK:∀ h' o',Tab h' g o' T (fun a=>M (xch i k a)) (fun a=>S (xch i k a))->(∀ b,b≠T.bE->b≠T.bS->o' b=o b)->K (.tuple #[]) h'):FCall Tryz.prog f_BSwap #[.pointer (some ⟨T.bt,0,none⟩),I (i:Int),I (k:Int)] h K:=by
 refine BSwap_ok _ _ _ ?_
 unfold BSwap
 refine row_spec t hi ⟨_,_,_,rfl,row_spec t hk ⟨_,_,_,rfl,?_⟩⟩
 refine ⟨fun L hp=>∃ (c:Nat) (o1:Heap),c<=T.cols/\L=[I c]/\Tab hp g o1 T (fun a b=>if b<c then M (xch i k a) b else M a b) S/\∀ b,b≠T.bE->o1 b=o b,fun L _=>T.cols-(iAt L 0).toNat,⟨0,o,by omega,rfl,t.congr (fun a b _ _=>by rw [if_neg (by omega)]) (fun _ _=>rfl),fun _ _=>rfl⟩,?_⟩
 rintro z hp ⟨c,o1,hc,eL,t1,ho1⟩
 obtain rfl:z=(c:Int):=by simpa using eL
 refine Br.dec (fun hlt=>?_) (fun hge=>?_)
 ·have hcn:c<T.cols:=by omega
  obtain ⟨w1,z1,d0,d1⟩:=t1.at hk hcn
  obtain ⟨w2,z2,e0,e1⟩:=t1.at hi hcn
  rw [if_neg (Nat.lt_irrefl c)] at z1 z2
  refine ⟨_,rfl,by omega,by omega,_,_,_,_,d0,d1,_,rfl,by omega,by omega,_,_,_,_,e0,e1,_,rfl,by omega,by omega,?_⟩
  refine t1.store hi hcn (w:=w1) z1 ?_
  intro h2 o2 t2 ho2
  refine ⟨_,rfl,by omega,by omega,?_⟩
  refine t2.store hk hcn (w:=w2) z2 ?_
  intro h3 o3 t3 ho3
  rw [show wi64 ((c:Int)+1)=((c+1:Nat):Int) by have:=t.small;rw [wi64_id]<;>omega]
  refine ⟨⟨c+1,o3,by omega,rfl,t3.congr (fun a b _ _=>?_) (fun _ _=>rfl),fun b hb=>by rw [ho3 b hb,ho2 b hb,ho1 b hb]⟩,by simp only [iAt0];omega⟩
  show (if a=k/\b=c then M i c else if a=i/\b=c then M k c else if b<c then M (xch i k a) b else M a b)=if b<c+1 then M (xch i k a) b else M a b
  unfold xch
  grind
 ·have hce:c=T.cols:=by omega
  subst hce
  obtain ⟨w1,z1,d0,d1,d2,d3⟩:=t1.sat hk
  obtain ⟨w2,z2,e0,e1,e2,e3⟩:=t1.sat hi
  refine ⟨_,rfl,_,_,_,t1.c2,_,rfl,_,_,_,t1.c2,_,rfl,_,_,_,t1.c2,_,rfl,by omega,by omega,_,_,_,_,_,_,_,_,d0,d1,d2,d3,_,rfl,_,_,_,t1.c2,_,rfl,by omega,by omega,_,_,_,_,_,_,_,_,e0,e1,e2,e3,_,rfl,by omega,by omega,?_⟩
  refine t1.sstore hi (w:=w1) z1 ?_
  intro h2 o2 t2 ho2
  refine ⟨_,rfl,by omega,by omega,?_⟩
  refine t2.sstore hk (w:=w2) z2 ?_
  intro h3 o3 t3 ho3
  refine hK h3 o3 (t3.congr (fun a b _ hb=>by rw [if_pos hb]) (fun a _=>?_)) (fun b hb1 hb2=>by rw [ho3 b hb2,ho2 b hb2,ho1 b hb1])
  show (if a=k then S i else if a=i then S k else S a)=S (xch i k a)
  unfold xch
  grind
end
end Go.Proofs.YthilnfgnpdeofaaGreatDoor
/-
 The table of an elimination in memory: Clear and reduce.
-/
namespace Go.Proofs.YthilnfgnpdeofaaGreatDoor
open Go
set_option maxRecDepth 20000
theorem box_ok'{P:Program}{t:TypeId}{v:Value}{K:Value->Heap->Prop}{h:Heap}(x:∀ b,h b=none->K (.pointer (some ⟨b,0,none⟩)) (h.put b (.cells v.cells t))):wpH P (Instr.box t v) K h:=by
 unfold Instr.box newVar
 simp only [wpH_bind_eq,wpH_newRow,wpH_pure]
 exact x
theorem pow_big{m k:Nat}(hm:1<=m)(hk:k<4611686018427387904):(k:Int)*2^(2*m)<b64^m:=by
 have e:b64^m=(2:Int)^(2*m)*2^(62*m):=by
  have:b64=(2:Int)^64:=by decide
  rw [this,<- Int.pow_mul,<- Int.pow_add]
  congr 1;omega
 have h1:(2:Int)^62<=2^(62*m):=pow_le_pow' (by decide) (by omega)
 have h2:(k:Int)<2^62:=by
  have:(2:Int)^62=4611686018427387904:=by decide
  rw [this];omega
 have hp:(0:Int)<2^(2*m):=Int.pow_pos (by decide)
 rw [e,Int.mul_comm]
 exact Int.mul_lt_mul_of_pos_left (Int.lt_of_lt_of_le h2 h1) hp
theorem prod_le{m:Nat}{x y:Int}(hx:ZB m x)(hy:ZB m y):((x*y).natAbs:Int)<=2^(2*m):=by
 have:=hx.mul hy
 unfold ZB at this
 have e:m+m=2*m:=by omega
 rw [e] at this
 have:((x*y).natAbs:Int)<((2^(2*m):Nat):Int):=by omega
 rw [Int.natCast_pow] at this
 exact Int.le_of_lt this
section
variable {h g o:Heap} {T:Tb} {M:Nat->Nat->Int} {S:Nat->Rat} {K:Value->Heap->Prop} {m:Nat}
theorem sum_zero:(Tryz.prog.info? ty_tSum).map (·.zero)=some (some (.agg #[.slice none 0 0,.slice none 0 0])):=by kernel_rfl
theorem clear_spec(t:Tab h g o T M S){i p c:Nat}{wb:IV}{d:Int}(hi:i<T.rows)(hp':p<T.rows)(hip:i≠p)(hc:c<T.cols)(ib:ZIr g wb d)(hd:d≠0)(hm1:1<=m)(hm:2*m+1<=100000000)(hMi:∀ b,b<T.cols->ZB m (M i b))(hMp:∀ b,b<T.cols->ZB m (M p b))(hdb:ZB m d)
 (hK:∀ h' g' o',g.le g'->Tab h' g' o' T (fun a b=>if a=i then (M p c*M i b-M i c*M p b).tdiv d else M a b) S->(∀ b,b≠T.bE->o' b=o b)->K (.tuple #[]) h'):FCall Tryz.prog f_BClear #[.pointer (some ⟨T.bt,0,none⟩),I (i:Int),I (p:Int),I (c:Int),wb.v] h K:=by
 refine BClear_ok _ _ _ _ _ _ _ _ ?_
 unfold BClear
 refine row_spec t hi ⟨_,_,_,rfl,row_spec t hp' ⟨_,_,_,rfl,?_⟩⟩
 obtain ⟨wf,zf,f0,f1⟩:=t.at hi hc
 refine ⟨_,rfl,by omega,by omega,_,_,_,_,f0,f1,?_⟩
 refine ⟨fun L hp=>∃ (k:Nat) (g1 o1:Heap),k<=T.cols/\L=[I k]/\g.le g1/\Tab hp g1 o1 T (fun a b=>if a=i/\b<k then (M p c*M i b-M i c*M p b).tdiv d else M a b) S/\∀ b,b≠T.bE->o1 b=o b,fun L _=>T.cols-(iAt L 0).toNat,⟨0,g,o,by omega,rfl,Heap.le_refl _,t.congr (fun a b _ _=>by rw [if_neg (by omega)]) (fun _ _=>rfl),fun _ _=>rfl⟩,?_⟩
 rintro z hq ⟨k,g1,o1,hk,eL,lg,t1,ho1⟩
 obtain rfl:z=(k:Int):=by simpa using eL
 have ew:wi64 ((k:Int)+1)=((k+1:Nat):Int):=by have:=t.small;rw [wi64_id]<;>omega
 refine Br.dec (fun hlt=>?_) (fun hge=>?_)
 ·have hkn:k<T.cols:=by omega
  obtain ⟨w1,z1,d0,d1⟩:=t1.at hi hkn
  rw [if_neg (by omega)] at z1
  have same:(M p c*M i k-M i c*M p k).tdiv d=M i k->(∃ (k':Nat) (g1 o1:Heap),k'<=T.cols/\[I (wi64 ((k:Int)+1))]=[I k']/\g.le g1/\Tab hq g1 o1 T (fun a b=>if a=i/\b<k' then (M p c*M i b-M i c*M p b).tdiv d else M a b) S/\∀ b,b≠T.bE->o1 b=o b)/\T.cols-(iAt [I (wi64 ((k:Int)+1))] 0).toNat<T.cols-(iAt [I (k:Int)] 0).toNat:=by
   intro e
   rw [ew]
   refine ⟨⟨k+1,g1,o1,by omega,rfl,lg,t1.congr (fun a b _ _=>?_) (fun _ _=>rfl),ho1⟩,by simp only [iAt0];omega⟩
   by_cases h1:a=i/\b<k
   ·rw [if_pos h1,if_pos ⟨h1.1,by omega⟩]
   ·rw [if_neg h1]
    by_cases h2:a=i/\b<k+1
    ·obtain ⟨rfl,h3⟩:=h2
     have:b=k:=by omega
     subst this
     rw [if_pos ⟨rfl,by omega⟩,e]
    ·rw [if_neg h2]
  refine ⟨_,rfl,by omega,by omega,_,_,_,_,d0,d1,fun L hp=>hp=hq,?_,?_⟩
  ·refine zisZero_spec (z1.mono t1.sep.le) ⟨_,rfl,Br.dec (fun e1=>?_) (fun _=>rfl)⟩
   refine zisZero_spec (zf.mono (Heap.le_trans lg t1.sep.le)) ⟨_,rfl,Br.dec (fun e2=>same (by rw [e1,e2];simp)) (fun _=>?_)⟩
   obtain ⟨w2,z2,c0,c1⟩:=t1.at hp' hkn
   rw [if_neg (by omega)] at z2
   refine ⟨_,rfl,by omega,by omega,_,_,_,_,c0,c1,zisZero_spec (z2.mono t1.sep.le) ⟨_,rfl,Br.dec (fun e3=>same (by rw [e1,e3];simp)) (fun _=>rfl)⟩⟩
  ·rintro hp rfl
   refine alloc_ok sum_zero ?_
   intro bs hbs
   have hgb:g1 bs=none:=by
    cases hx:g1 bs with
    | none=>rfl
    | some y=>rw [t1.sep.le _ _ hx] at hbs;cases hbs
   have s2:=t1.sep.vis hbs (.cells #[.slice none 0 0,.slice none 0 0] ty_tSum)
   have Z0:SumS (g1.put bs (.cells #[.slice none 0 0,.slice none 0 0] ty_tSum)) g1 bs ty_tSum 200000001 0 0:=SumS.zero hgb
   obtain ⟨w3,z3,a0,a1⟩:=t1.ato hp' hc
   obtain ⟨w2,z2,c0,c1⟩:=t1.ato hp' hkn
   rw [if_neg (by omega)] at z2 z3
   have bl:∀ {gg:Heap} {w:IV} {x:Int},ZIr gg w x->ZB m x->w.n<=100000000:=fun i b=>ZI.len i b (by omega)
   have bpc:=hMp c hc
   have bik:=hMi k hkn
   have bic:=hMi c hc
   have bpk:=hMp k hkn
   have q1:=prod_le bpc bik
   have q2:=prod_le bic bpk
   have q0:=pow_big (m:=m) (k:=2) hm1 (by omega)
   have l3:=bl z3 bpc
   have l1:=bl z1 bik
   have lf:=bl zf bic
   have l2:=bl z2 bpk
   refine ⟨_,rfl,_,rfl,by omega,by omega,_,_,_,_,s2.cell a0,s2.cell a1,?_⟩
   refine s2.call (addProduct'_spec Z0 z3 z1 (by omega) (by omega) (N1:=m) (by omega) (by omega) ?_)
   intro G3 g3 lg3 Z3 H3 s3
   refine ⟨rfl,_,rfl,by omega,by omega,_,_,_,_,s3.cell c0,s3.cell c1,?_⟩
   refine s3.call (subProduct'_spec Z3 (zf.mono (Heap.le_trans lg lg3)) (z2.mono lg3) (by omega) (by omega) (N1:=m) (by omega) (by omega) ?_)
   intro G4 g4 lg4 Z4 H4 s4
   refine ⟨rfl,s4.call (sumValue_spec Z4 (by omega) ?_)⟩
   intro sv Av nv cv G5 lg5 z5 H5 s5
   rw [Int.zero_add] at z5
   refine ⟨_,_,_,_,rfl,s4.le_le s5 lg5,?_⟩
   have g14:g1.le G5:=Heap.le_trans lg3 (Heap.le_trans lg4 (Heap.le_trans Z4.le lg5))
   have bz:ZB (2*m+1) (M p c*M i k-M i c*M p k):=((bpc.mul bik).sub (bic.mul bpk)).mono (by omega)
   refine s5.call (zquo_spec z5 (ib.mono (Heap.le_trans lg g14)) bz (hdb.mono (by omega)) (by omega) hd ?_)
   intro s6 A6 n6 c6 G6 lg6 z6 H6 sp6
   refine ⟨_,_,_,_,rfl,s5.le_le sp6 lg6,_,rfl,by omega,by omega,?_⟩
   have t6:=t1.next sp6 (Heap.le_trans g14 lg6)
   refine t6.store hi hkn (w:=⟨s6,A6,n6,c6⟩) z6 ?_
   intro H7 o7 t7 ho7
   rw [ew]
   refine ⟨⟨k+1,G6,o7,by omega,rfl,Heap.le_trans lg (Heap.le_trans g14 lg6),t7.congr (fun a b _ _=>?_) (fun _ _=>rfl),fun b hb=>by rw [ho7 b hb,ho1 b hb]⟩,by simp only [iAt0];omega⟩
   show (if a=i/\b=k then (M p c*M i k-M i c*M p k).tdiv d else if a=i/\b<k then (M p c*M i b-M i c*M p b).tdiv d else M a b)=_
   grind
 ·have hce:k=T.cols:=by omega
  subst hce
  exact hK hq g1 o1 lg (t1.congr (fun a b _ hb=>by
   by_cases h1:a=i
   ·rw [if_pos ⟨h1,hb⟩,if_pos h1]
   ·rw [if_neg (fun x=>h1 x.1),if_neg h1]) (fun _ _=>rfl)) ho1
theorem runP_len(n:Nat)(s:PS)(h:s.cs=[]):∀ c,(runP n s c).cs.length<=c:=by
 intro c
 induction c with
 | zero=>show s.cs.length<=0;rw [h];exact Nat.le_refl _
 | succ c ih=>
  show (stepP n c (runP n s c)).cs.length<=c+1
  unfold stepP
  split
  ·show ((runP n s c).cs++[c]).length<=c+1
   rw [List.length_append]
   exact Nat.succ_le_succ ih
  ·omega
theorem runP_last(n:Nat)(s:PS)(h:s.last≠0)(hs:s.sgn=1\/s.sgn= -1)(hl:s.cs.length<=n):∀ c,(runP n s c).last≠0/\((runP n s c).sgn=1\/(runP n s c).sgn= -1)/\(runP n s c).cs.length<=n:=by
 intro c
 induction c with
 | zero=>exact ⟨h,hs,hl⟩
 | succ c ih=>
  obtain ⟨i1,i2,i3⟩:=ih
  show (stepP n c (runP n s c)).last≠0/\((stepP n c (runP n s c)).sgn=1\/(stepP n c (runP n s c)).sgn= -1)/\(stepP n c (runP n s c)).cs.length<=n
  have hr:=rowP_le n c (runP n s c) i3
  unfold stepP
  by_cases hx:rowP n c (runP n s c)<n
  ·rw [if_pos hx]
   have:=fnd_hit (fun i=>decide ((runP n s c).M i c≠0)) (n-(runP n s c).cs.length) (runP n s c).cs.length (by unfold rowP at hx;omega)
   refine ⟨by simpa [rowP] using this,?_,?_⟩
   ·show (if rowP n c (runP n s c)=(runP n s c).cs.length then (runP n s c).sgn else -(runP n s c).sgn)=1\/(if rowP n c (runP n s c)=(runP n s c).cs.length then (runP n s c).sgn else -(runP n s c).sgn)= -1
    split<;>omega
   ·show ((runP n s c).cs++[c]).length<=n
    rw [List.length_append]
    simp only [List.length_cons,List.length_nil]
    omega
  ·rw [if_neg hx];exact ⟨i1,i2,i3⟩
theorem OwnSl.push'{α:Type}[E:Enc α]{P:Program}{t e ty:TypeId}{z:Value}{bytes:Nat}(st:SliceT P t e z E.default.size bytes){h g o:Heap}{A:Option Addr}{c n:Nat}{xs:List α}(s:Sep h g o)(w:OwnSl o e A c xs)(hxn:n=xs.length){v:Value}{y:α}(hv:v.cells=(enc y).toArray)(hsz:E.default.size<=1000)
 (hb:(2*(xs.length+1)+192)*bytes<=281474976710656) (hn:xs.length+1<=9223372036854775807) {K:Option Addr->Nat->Nat->Heap->Prop}
 (x:∀ A' c' h' g' o',g.le g'->Sep h' g' o'->OwnSl o' e A' c' (xs++[y])->(∀ k u,o k=some u->A≠some ⟨k,0,none⟩->o' k=some u/\A'≠some ⟨k,0,none⟩)->K A' (xs.length+1) c' h'):
 wpH P (Instr.buildSlice t 1 #[(0,v)]) (fun v' hp=>∃ (B:Option Addr) (m d:Nat),v'= .slice B m d/\wpH P (Builtin.append_ #[t,t] ty #[.slice A n c,.slice B m d]) (fun v1 hp1=>∃ (A':Option Addr) (n' c':Nat),v1= .slice A' n' c'/\K A' n' c' hp1) hp) h:=by
 subst hxn
 refine wpH_mono _ (OwnSl.push (ty:=ty) st s w hv hsz hb hn (K1:=fun _=>True) (K:=K) (fun _ _=>trivial) x) ?_
 rintro v' hp ⟨B,m,d,e,_,hk⟩
 exact ⟨B,m,d,e,hk⟩
theorem Tab.own(t:Tab h g o T M S):(∃ x,o T.bt=some x)/\(∃ x,o T.bE=some x)/\∃ x,o T.bS=some x:=by
 obtain ⟨e,he⟩:=t.head
 obtain ⟨ws,⟨e1,x1,h1⟩,_⟩:=t.elems
 obtain ⟨ss,⟨e2,x2,h2⟩,_⟩:=t.scales
 exact ⟨⟨_,he⟩,⟨_,h1⟩,⟨_,h2⟩⟩
theorem Tab.keep(t:Tab h g o T M S){h' g' o':Heap}(s:Sep h' g' o')(l:g.le g')(hk:∀ k x,o k=some x->k=T.bt\/k=T.bE\/k=T.bS->o' k=some x):Tab h' g' o' T M S:=by
 refine ⟨s,t.n1,t.n2,t.n3,?_,?_,?_,t.cE,t.cS,t.small,t.pos⟩
 ·obtain ⟨e,he⟩:=t.head
  exact ⟨e,hk _ _ he (.inl rfl)⟩
 ·obtain ⟨ws,⟨e,ex,hb⟩,hl,hw⟩:=t.elems
  refine ⟨ws,⟨e,ex,hk _ _ hb (.inr (.inl rfl))⟩,hl,fun i j hi hj=>?_⟩
  obtain ⟨w,e,hz⟩:=hw i j hi hj
  exact ⟨w,e,monZI _ _ _ _ l hz⟩
 ·obtain ⟨ss,⟨e,ex,hb⟩,hl,hw⟩:=t.scales
  exact ⟨ss,⟨e,ex,hk _ _ hb (.inr (.inr rfl))⟩,hl,hw.mono monRQ l⟩
abbrev zs(l:List Nat):List Int:=l.map fun (n:Nat)=>(n:Int)
def Apart(T:Tb)(A:Option Addr):Prop:=A≠some ⟨T.bt,0,none⟩/\A≠some ⟨T.bE,0,none⟩/\A≠some ⟨T.bS,0,none⟩
theorem reduce_spec(t:Tab h g o T M S){c l:Nat}(hc:c<=T.cols)(hm1:1<=m)(hm:2*(3^c*m)+1<=100000000)(hz:ZbP T.rows T.cols m l ⟨M,S,[],1,1⟩)
 (hK:∀ h' g' o' A cap w,g.le g'->Tab h' g' o' T (runP T.rows ⟨M,S,[],1,1⟩ c).M (runP T.rows ⟨M,S,[],1,1⟩ c).S->OwnSl o' ty_tInts_e A cap (zs (runP T.rows ⟨M,S,[],1,1⟩ c).cs)->Apart T A->(∀ k x,o k=some x->k≠T.bE->k≠T.bS->o' k=some x/\A≠some ⟨k,0,none⟩)->ZIr g' w (runP T.rows ⟨M,S,[],1,1⟩ c).last->
  K (.tuple #[.slice A (runP T.rows ⟨M,S,[],1,1⟩ c).cs.length cap,w.v,I (runP T.rows ⟨M,S,[],1,1⟩ c).sgn]) h'):FCall Tryz.prog f_BReduce #[.pointer (some ⟨T.bt,0,none⟩),I (c:Int)] h K:=by
 refine BReduce_ok _ _ ?_
 unfold BReduce
 have hsm:=t.small
 refine t.sep.call (znew_spec (by omega) (by omega) ?_)
 intro s1 A1 n1 c1 g1 l1 i1 h1 sp1
 have t1:=t.next sp1 l1
 refine ⟨_,_,_,_,rfl,fun L hp=>∃ (k:Nat) (g' o':Heap) (A:Option Addr) (cap:Nat) (w:IV),k<=c/\L=[.slice A (runP T.rows ⟨M,S,[],1,1⟩ k).cs.length cap,I (runP T.rows ⟨M,S,[],1,1⟩ k).sgn,I k,.bool w.s,.slice w.A w.n w.c]/\g.le g'/\Tab hp g' o' T (runP T.rows ⟨M,S,[],1,1⟩ k).M (runP T.rows ⟨M,S,[],1,1⟩ k).S/\OwnSl o' ty_tInts_e A cap (zs (runP T.rows ⟨M,S,[],1,1⟩ k).cs)/\Apart T A/\(∀ k x,o k=some x->k≠T.bE->k≠T.bS->o' k=some x/\A≠some ⟨k,0,none⟩)/\ZIr g' w (runP T.rows ⟨M,S,[],1,1⟩ k).last,
  fun L _=>c-(iAt L 2).toNat,⟨0,g1,o,none,0,⟨s1,A1,n1,c1⟩,by omega,rfl,l1,t1,(OwnSl.nil:OwnSl o ty_tInts_e none 0 ([]:List Int)),⟨by simp,by simp,by simp⟩,fun k x e _ _=>⟨e,by simp⟩,i1⟩,?_⟩
 rintro pA pn pc sign z ls lA ln lc hp ⟨k,g2,o2,A,cap,w,hk,eL,lg,t2,ow,ap,ko,iw⟩
 simp only [List.cons.injEq,Value.int.injEq,Value.bool.injEq,Value.slice.injEq,true_and,and_true] at eL
 obtain ⟨⟨rfl,rfl,rfl⟩,rfl,rfl,rfl,rfl,rfl,rfl⟩:=eL
 have hrl:=runP_last T.rows ⟨M,S,[],1,1⟩ (show (1:Int)≠0 by decide) (.inl rfl) (Nat.zero_le _) k
 have hlen:=runP_len T.rows ⟨M,S,[],1,1⟩ rfl k
 have hzk:=hz.run hm1 k (by omega)
 refine Br.dec (fun hlt=>?_) (fun hge=>?_)
 ·have hkc:k<c:=by omega
  have hkT:k<T.cols:=by omega
  have ew:wi64 ((k:Int)+1)=((k+1:Nat):Int):=by rw [wi64_id]<;>omega
  have hst:runP T.rows ⟨M,S,[],1,1⟩ (k+1)=stepP T.rows k (runP T.rows ⟨M,S,[],1,1⟩ k):=rfl
  have hpow:3^(runP T.rows ⟨M,S,[],1,1⟩ k).cs.length*m<=3^c*m:=Nat.mul_le_mul_right _ (Nat.pow_le_pow_right (by decide) (by omega))
  have hpos:=pow3_pos (runP T.rows ⟨M,S,[],1,1⟩ k).cs.length m hm1
  generalize hst0:runP T.rows ⟨M,S,[],1,1⟩ k=st at *
  have hrow:fnd (fun i=>decide (st.M i k≠0)) (T.rows-st.cs.length) st.cs.length=rowP T.rows k st:=rfl
  have hrp:=rowP_le T.rows k st hrl.2.2
  refine find_spec t2 hrl.2.2 hkT (fun hf=>?_) (fun hf=>?_)
  ·rw [hrow] at hf ⊢
   have hstep:stepP T.rows k st={ M:=clr (fun i=>st.M (xch st.cs.length (rowP T.rows k st) i)) st.cs.length k st.last,S:=fun i=>st.S (xch st.cs.length (rowP T.rows k st) i),cs:=st.cs++[k],last:=st.M (rowP T.rows k st) k,sgn:=if rowP T.rows k st=st.cs.length then st.sgn else-st.sgn }:=by unfold stepP;rw [if_pos hf]
   generalize hr:rowP T.rows k st=r at *
   have hrk:st.cs.length<T.rows:=by omega
   refine ⟨_,_,rfl,fun L hq=>∃ (g3 o3:Heap),L=[I (if r=st.cs.length then st.sgn else-st.sgn)]/\g2.le g3/\Tab hq g3 o3 T (fun i=>st.M (xch st.cs.length r i)) (fun i=>st.S (xch st.cs.length r i))/\∀ b,b≠T.bE->b≠T.bS->o3 b=o2 b,?_,?_⟩
   ·refine Br.bne (fun hne=>?_) (fun heq=>?_)
    ·have hne':r≠st.cs.length:=by omega
     refine swap_spec t2 hrk hf (fun e=>hne' e.symm) ?_
     intro h3 o3 t3 ho3
     refine ⟨rfl,g2,o3,?_,Heap.le_refl _,t3,ho3⟩
     rw [if_neg hne']
     have:wi64 (0-st.sgn)= - st.sgn:=by rw [wi64_id]<;>omega
     rw [this]
    ·have heq':r=st.cs.length:=by omega
     refine ⟨g2,o2,by rw [if_pos heq'],Heap.le_refl _,t2.congr (fun i j _ _=>?_) (fun i _=>?_),fun _ _ _=>rfl⟩
     ·rw [heq'];unfold xch;grind
     ·rw [heq'];unfold xch;grind
   ·rintro sg1 h4 ⟨g3,o3,eL3,l3,t3,ho3⟩
    obtain rfl:sg1=if r=st.cs.length then st.sgn else-st.sgn:=by simpa using eL3
    refine ⟨_,rfl,_,_,_,t3.c2,?_⟩
    have xk:xch st.cs.length r st.cs.length=r:=xch_left _ _
    have hxn:∀ i,i<T.rows->xch st.cs.length r i<T.rows:=fun i hi=>xch_lt hrk hf hi
    refine ⟨fun L hq=>∃ (i:Nat) (g4 o4:Heap),i<=T.rows/\L=[I i]/\g3.le g4/\Tab hq g4 o4 T (fun a b=>if a<i/\a≠st.cs.length then clr (fun i=>st.M (xch st.cs.length r i)) st.cs.length k st.last a b else st.M (xch st.cs.length r a) b) (fun i=>st.S (xch st.cs.length r i))/\∀ b,b≠T.bE->o4 b=o3 b,fun L _=>T.rows-(iAt L 0).toNat,⟨0,g3,o3,by omega,rfl,Heap.le_refl _,t3.congr (fun a b _ _=>by rw [if_neg (by omega)]) (fun _ _=>rfl),fun _ _=>rfl⟩,?_⟩
    rintro zi h5 ⟨i,g4,o4,hi,eL4,l4,t4,ho4⟩
    obtain rfl:zi=(i:Int):=by simpa using eL4
    have ewi:wi64 ((i:Int)+1)=((i+1:Nat):Int):=by rw [wi64_id]<;>omega
    refine Br.dec (fun hilt=>?_) (fun hige=>?_)
    ·have hin:i<T.rows:=by omega
     refine Br.bne (fun hne=>?_) (fun heq=>?_)
     ·have hne':i≠st.cs.length:=by omega
      refine clear_spec (m:=3^st.cs.length*m) t4 hin hrk hne' hkT (monZI _ _ _ _ (Heap.le_trans l3 l4) iw) hrl.1 hpos (by omega) (fun b hb=>?_) (fun b hb=>?_) hzk.last ?_
      ·rw [if_neg (by omega)];exact hzk.M _ b (hxn i hin) hb
      ·rw [if_neg (by omega),xk];exact hzk.M r b hf hb
      intro h6 g6 o6 l6 t6 ho6
      refine ⟨rfl,?_⟩
      rw [ewi]
      refine ⟨⟨i+1,g6,o6,by omega,rfl,Heap.le_trans l4 l6,t6.congr (fun a b _ _=>?_) (fun _ _=>rfl),fun b hb=>by rw [ho6 b hb,ho4 b hb]⟩,by simp only [iAt0];omega⟩
      show (if a=i then ((if st.cs.length<i/\st.cs.length≠st.cs.length then _ else st.M (xch st.cs.length r st.cs.length) k)*(if i<i/\i≠st.cs.length then _ else st.M (xch st.cs.length r i) b)-(if i<i/\i≠st.cs.length then _ else st.M (xch st.cs.length r i) k)*(if st.cs.length<i/\st.cs.length≠st.cs.length then _ else st.M (xch st.cs.length r st.cs.length) b)).tdiv st.last else if a<i/\a≠st.cs.length then clr (fun i=>st.M (xch st.cs.length r i)) st.cs.length k st.last a b else st.M (xch st.cs.length r a) b)=if a<i+1/\a≠st.cs.length then clr (fun i=>st.M (xch st.cs.length r i)) st.cs.length k st.last a b else st.M (xch st.cs.length r a) b
      rw [if_neg (show ¬ (st.cs.length<i/\st.cs.length≠st.cs.length) by omega),if_neg (show ¬ (i<i/\i≠st.cs.length) by omega),if_neg (show ¬ (i<i/\i≠st.cs.length) by omega),if_neg (show ¬ (st.cs.length<i/\st.cs.length≠st.cs.length) by omega)]
      by_cases ea:a=i
      ·subst ea
       rw [if_pos rfl,if_pos ⟨by omega,hne'⟩]
       unfold clr
       rw [if_neg hne']
      ·rw [if_neg ea]
       by_cases h7:a<i/\a≠st.cs.length
       ·rw [if_pos h7,if_pos ⟨by omega,h7.2⟩]
       ·rw [if_neg h7,if_neg (by omega)]
     ·have heq':i=st.cs.length:=by omega
      rw [ewi]
      refine ⟨⟨i+1,g4,o4,by omega,rfl,l4,t4.congr (fun a b _ _=>?_) (fun _ _=>rfl),ho4⟩,by simp only [iAt0];omega⟩
      by_cases h7:a<i/\a≠st.cs.length
      ·rw [if_pos h7,if_pos ⟨by omega,h7.2⟩]
      ·rw [if_neg h7,if_neg (by omega)]
    ·have hie:i=T.rows:=by omega
     subst hie
     have tF:Tab h5 g4 o4 T (clr (fun i=>st.M (xch st.cs.length r i)) st.cs.length k st.last) (fun i=>st.S (xch st.cs.length r i)):=t4.congr (fun a b ha _=>by
      by_cases h7:a=st.cs.length
      ·rw [if_neg (by omega),h7];unfold clr;rw [if_pos rfl]
      ·rw [if_pos ⟨ha,h7⟩]) (fun _ _=>rfl)
     refine row_spec tF hrk ⟨_,_,_,rfl,_,rfl,by omega,by omega,?_⟩
     obtain ⟨wl,zl,d0,d1⟩:=tF.at hrk hkT
     have hzl:ZIr g4 wl (st.M r k):=by
      have:clr (fun i=>st.M (xch st.cs.length r i)) st.cs.length k st.last st.cs.length k=st.M r k:=by unfold clr;rw [if_pos rfl];show st.M (xch st.cs.length r st.cs.length) k=_;rw [xk]
      rw [this] at zl;exact zl
     refine ⟨_,_,_,_,d0,d1,?_⟩
     have hkeep:∀ b,b≠T.bE->b≠T.bS->o4 b=o2 b:=fun b h1 h2=>by rw [ho4 b h1,ho3 b h1 h2]
     have ow4:OwnSl o4 ty_tInts_e pA pc (zs st.cs):=ow.keep fun b x hA hb=>by
      rw [hkeep b (fun e=>ap.2.1 (by rw [<- e];exact hA)) (fun e=>ap.2.2 (by rw [<- e];exact hA))];exact hb
     have hzl0:(zs st.cs).length=st.cs.length:=by simp
     refine OwnSl.push' (ty:=ty_tInts) tInts tF.sep ow4 (by simp) (y:=((k:Nat):Int)) rfl (by decide) (by rw [hzl0];omega) (by rw [hzl0];omega) ?_
     intro A' c' h' g' o' lg' s' ow' ho'
     obtain ⟨⟨x1,hx1⟩,⟨x2,hx2⟩,⟨x3,hx3⟩⟩:=tF.own
     have t':=tF.keep s' lg' (fun kk x e hkk=>by
      rcases hkk with rfl|rfl|rfl
      ·exact (ho' _ _ e ap.1).1
      ·exact (ho' _ _ e ap.2.1).1
      ·exact (ho' _ _ e ap.2.2).1)
     rw [hzl0,ew]
     have elen:(st.cs++[k]).length=st.cs.length+1:=by simp
     refine ⟨⟨k+1,g',o',A',c',wl,by omega,?_,Heap.le_trans lg (Heap.le_trans l3 (Heap.le_trans l4 lg')),?_⟩,?_⟩
     ·rw [hst,hstep,elen]
     ·rw [hst,hstep]
      refine ⟨t',by simpa [zs] using ow',⟨(ho' _ _ hx1 ap.1).2,(ho' _ _ hx2 ap.2.1).2,(ho' _ _ hx3 ap.2.2).2⟩,fun kk x e h1 h2=>?_,monZI _ _ _ _ lg' hzl⟩
      obtain ⟨e2,hA2⟩:=ko kk x e h1 h2
      exact ho' kk x (by rw [hkeep kk h1 h2];exact e2) hA2
     ·show c-((k+1:Nat):Int).toNat<c-((k:Nat):Int).toNat
      omega
  ·rw [hrow] at hf
   have hstep:stepP T.rows k st=st:=by unfold stepP;rw [if_neg (by omega)]
   refine ⟨_,_,rfl,?_⟩
   rw [ew]
   refine ⟨⟨k+1,g2,o2,pA,pc,w,by omega,by rw [hst,hstep],lg,?_⟩,?_⟩
   ·rw [hst,hstep];exact ⟨t2,ow,ap,ko,iw⟩
   ·show c-((k+1:Nat):Int).toNat<c-((k:Nat):Int).toNat
    omega
 ·have:k=c:=by omega
  subst this
  exact hK hp g2 o2 pA pc w lg t2 ow ap ko iw
end
end Go.Proofs.YthilnfgnpdeofaaGreatDoor
/-
 The quotient of two integers.
-/
namespace Go.Proofs.YthilnfgnpdeofaaGreatDoor
open Go
set_option maxRecDepth 20000
section
variable {h:Heap} {K:Value->Heap->Prop} {A B:Option Addr} {n c n' c' m:Nat} {s s':Bool} {x y:Int}
theorem rq_zero:RQ h ⟨false,none,0,0,false,none,0,0⟩ 0:=⟨ZI.zero,ZI.zero⟩
theorem rq_whole{z:Int}(i:ZI h s A n c z):RQ h ⟨s,A,n,c,false,none,0,0⟩ (z:Rat):=⟨by simpa using i,by simpa using ZI.zero⟩
theorem fraction_spec(gl:Gtz h)(ix:ZI h s A n c x)(iy:ZI h s' B n' c' y)(hx:ZB m x)(hy:ZB m y)(hm:m<=6400000000)(hK:∀ w h',h.le h'->RQ h' w (Rat.divInt x y)->K w.v h'):FCall Tryz.prog f_TFraction #[.agg #[.bool s,.slice A n c],.agg #[.bool s',.slice B n' c']] h K:=by
 refine TFraction_ok _ _ _ _ _ _ _ _ ?_
 unfold TFraction
 refine ⟨fun L hp=>hp=h/\((L=[.bool true]/\Rat.divInt x y=0)\/(L=[.bool false]/\y≠0)),?_,?_⟩
 ·refine zisZero_spec iy ⟨_,rfl,Br.dec (fun e=>⟨rfl,.inl ⟨rfl,by rw [e];exact Rat.divInt_zero x⟩⟩) (fun e=>zisZero_spec ix ⟨_,rfl,rfl,?_⟩)⟩
  by_cases e2:x=0
  ·exact .inl ⟨by rw [decide_eq_true e2],by rw [e2];exact Rat.zero_divInt y⟩
  ·exact .inr ⟨by rw [decide_eq_false e2],e⟩
 rintro t hp ⟨rfl,hL⟩
 refine Br.of (fun e=>?_) (fun e=>?_)
 ·rcases hL with ⟨_,h0⟩|⟨h1,_⟩
  ·rw [h0] at hK
   exact hK _ _ (Heap.le_refl _) rq_zero
  ·simp at h1;rw [e] at h1;cases h1
 have hy0:y≠0:=by
  rcases hL with ⟨h1,_⟩|⟨_,h0⟩
  ·simp at h1;rw [e] at h1;cases h1
  ·exact h0
 refine ⟨fun l hq=>∃ s A n c s' B n' c' x' y',l=[.bool s,.slice A n c,.bool s',.slice B n' c']/\hp.le hq/\ZI hq s A n c x'/\ZI hq s' B n' c' y'/\0<y'/\Rat.divInt x' y'=Rat.divInt x y/\ZB m x'/\ZB m y',?_,?_⟩
 ·refine zsign_spec iy ⟨_,rfl,Br.dec (fun e=>?_) (fun e=>?_)⟩
  ·have hneg:y<0:=by rwa [Int.sign_neg_iff] at e
   refine zneg_spec ix ?_
   intro s1 i1
   refine ⟨_,_,_,_,rfl,Heap.le_refl _,?_⟩
   refine zneg_spec iy ?_
   intro s2 i2
   exact ⟨_,_,_,_,rfl,Heap.le_refl _,_,_,_,_,_,_,_,_,-x,-y,rfl,Heap.le_refl _,i1,i2,by omega,Rat.neg_divInt_neg x y,hx.neg,hy.neg⟩
  ·have hpos:0<y:=by rw [Int.sign_neg_iff] at e;omega
   exact ⟨_,_,_,_,_,_,_,_,x,y,rfl,Heap.le_refl _,ix,iy,hpos,rfl,hx,hy⟩
 rintro s1 A1 n1 c1 s2 A2 n2 c2 hp2 ⟨s1',A1',n1',c1',s2',A2',n2',c2',x',y',hl,hle,i1,i2,hpos,hq,hx',hy'⟩
 obtain ⟨rfl,⟨rfl,rfl,rfl⟩,rfl,rfl,rfl,rfl⟩:s1=s1'/\(A1=A1'/\n1=n1'/\c1=c1')/\s2=s2'/\A2=A2'/\n2=n2'/\c2=c2':=by simpa using hl
 rw [<- hq] at hK
 refine zisOne_spec i2 ⟨_,rfl,Br.dec (fun e1=>?_) (fun e1=>?_)⟩
 ·rw [e1,divInt_one] at hK
  exact hK _ _ hle (rq_whole i1)
 refine zgcd_spec (gl.mono hle) i1 i2 hx' hy' hm ?_
 intro A3 n3 c3 h3 l3 i3
 refine ⟨_,_,_,_,rfl,?_⟩
 generalize hqq:Rat.divInt x' y'=q at *
 have hnum:q.num=x'/(Int.gcd x' y':Int):=by
  rw [<- hqq,Rat.num_divInt,Int.sign_eq_one_of_pos hpos,Int.one_mul,Int.gcd_comm]
 have hden:(q.den:Int)=y'/(Int.gcd x' y':Int):=by
  rw [<- hqq,Rat.den_divInt,if_neg (by omega),Int.gcd_comm,Int.natCast_ediv,Int.natAbs_of_nonneg (by omega)]
 have hg1:0<Int.gcd x' y':=Int.gcd_pos_of_ne_zero_right x' (by omega)
 have hgm:ZB m (Int.gcd x' y':Int):=ZB.gcd (by omega) hy'
 refine zisOne_spec i3 ⟨_,rfl,Br.not (Br.dec (fun e2=>?_) (fun e2=>?_))⟩
 ·rw [e2] at hnum hden
  simp at hnum hden
  refine lowest_spec (q:=q) (i1.mono l3) (i2.mono l3) hnum hden ?_
  intro w iw
  exact ⟨_,_,_,_,_,_,_,_,rfl,hK _ _ (Heap.le_trans hle l3) iw⟩
 ·refine zquo_spec (i1.mono l3) i3 hx' hgm hm (by omega) ?_
  intro s4 A4 n4 c4 h4 l4 i4
  refine ⟨_,_,_,_,rfl,l4,?_⟩
  refine zquo_spec ((i2.mono l3).mono l4) (i3.mono l4) hy' hgm hm (by omega) ?_
  intro s5 A5 n5 c5 h5 l5 i5
  refine ⟨_,_,_,_,rfl,l5,?_⟩
  refine lowest_spec (q:=q) (i4.mono l5) i5 (by rw [hnum,Int.tdiv_eq_ediv_of_dvd (Int.gcd_dvd_left x' y')]) (by rw [hden,Int.tdiv_eq_ediv_of_dvd (Int.gcd_dvd_right x' y')]) ?_
  intro w iw
  exact ⟨_,_,_,_,_,_,_,_,rfl,hK _ _ (Heap.le_trans hle (Heap.le_trans l3 (Heap.le_trans l4 l5))) iw⟩
end
end Go.Proofs.YthilnfgnpdeofaaGreatDoor
/-
 Parts of a list in turn (slices.Chunk);the table of a matrix (NewTable).
-/
namespace Go.Proofs.YthilnfgnpdeofaaGreatDoor
open Go
set_option maxRecDepth 20000
section
variable {α:Type} [E:Enc α]
theorem OwnSl.store{P:Program}{t e:TypeId}(one:P.cellsOf t=E.default.size/\(P.info? t).isSome=true){v:Value}{y:α}(hv:v.cells=(enc y).toArray){h g o:Heap}{A:Option Addr}{c:Nat}{xs:List α}(s:Sep h g o)(w:OwnSl o e A c xs){i b:Nat}(hi:i<xs.length)(hA:A=some ⟨b,0,none⟩){K:Unit->Heap->Prop}
 (x:∀ h' o',Sep h' g o'->OwnSl o' e A c (xs.set i y)->(∀ k,k≠b->o' k=o k)->K () h'):wpH P (Instr.storeAt t (.pointer (some (Addr.add ⟨b,0,none⟩ (i*E.default.size)))) v) K h:=by
 rcases w.2 with ⟨h0,_⟩|⟨b',arr,hA',hb,h1,h2⟩
 ·exfalso;have:=w.1;omega
 ·rw [hA] at hA'
  simp only [Option.some.injEq,Addr.mk.injEq,and_true] at hA'
  subst hA'
  obtain ⟨ex,hex⟩:∃ ex,arr=xs.flatMap enc++ex:=⟨arr.drop (xs.length*E.default.size),by rw [<- h2,List.take_append_drop]⟩
  rw [hex] at hb h1
  obtain ⟨ti,hti⟩:=Option.isSome_iff_exists.1 one.2
  have hs:ti.size=E.default.size:=by simpa [Program.cellsOf,hti] using one.1
  have hl:=E.default.len y
  have hle:(i+1)*E.default.size<=xs.length*E.default.size:=Nat.mul_le_mul_right _ hi
  rw [Nat.add_mul,Nat.one_mul] at hle
  have hput:(h.without b).put b (.cells (xs.flatMap enc++ex).toArray e)=h:=Heap.put_without (s.own b _ hb)
  unfold Instr.storeAt
  simp only [wpH_bind_eq,Instr.sureAddr,wpH_pure,storeVar,wpH_sizeOf hti,hs,hv,List.size_toArray,hl,ne_eq,not_true_eq_false,if_false]
  rw [add_at,Nat.zero_add,<- hput]
  refine wpH_storeCells (enc y) (i*E.default.size) 0 _ (by rw [List.length_append,flat_len,hl];omega) (E.default.one y) ?_
  have hsp:splice (xs.flatMap enc++ex) (i*E.default.size+0) (enc y)=(xs.set i y).flatMap enc++ex:=by
   rw [Nat.add_zero,<- flat_set xs hi]
   unfold splice
   rw [List.take_append_of_le_length (by rw [flat_len];omega),List.drop_append_of_le_length (by rw [flat_len,hl];omega),List.append_assoc,List.append_assoc,List.append_assoc]
  rw [hsp]
  have hp2:(h.without b).put b (.cells ((xs.set i y).flatMap enc++ex).toArray e)=h.put b (.cells ((xs.set i y).flatMap enc++ex).toArray e):=by
   rw [<- hput,Heap.put_put,hput]
  rw [hp2]
  refine x _ _ (s.upd hb _) ⟨by simpa using w.1,.inr ⟨b,(xs.set i y).flatMap enc++ex,hA,Heap.put_same _ _ _,?_,?_⟩⟩ (fun k hk=>Heap.put_other _ _ hk)
  ·rw [List.length_append,flat_len] at h1 ⊢
   simpa using h1
  ·rw [List.take_append_of_le_length (by rw [flat_len];omega),List.take_of_length_le (by rw [flat_len];omega)]
end
section
variable {h g:Heap} {K:Value->Heap->Prop} {A:Option Addr} {n c cols:Nat}
def IsChunk(h:Heap)(v:Value)(A:Option Addr)(n c cols:Nat):Prop:=∃ f0 f1:Addr,v= .func (.func f_MChunk1) #[] #[.pointer (some f0),.pointer (some f1)]/\h.cell? f0=some (.slice A n c)/\h.cell? f1=some (I (cols:Int))
theorem chunk_spec(hc:1<=cols)(hK:∀ v h',h.le h'->IsChunk h' v A n c cols->K v h'):FCall Tryz.prog f_MChunk #[.slice A n c,I (cols:Int)] h K:=by
 refine MChunk_ok _ _ _ _ ?_
 unfold MChunk
 refine box_ok' ?_
 intro b hb
 refine ⟨_,rfl,box_ok' ?_⟩
 intro b2 hb2
 have c1:Heap.cell? ((h.put b (.cells (Value.cells (.slice A n c)) 87)).put b2 (.cells (Value.cells (I (cols:Int))) 3)) ⟨b2,0,none⟩=some (I (cols:Int)):=by rw [Heap.cell_put];rfl
 refine ⟨_,rfl,_,c1,Br.dec (fun e=>by omega) (fun _=>hK _ _ (Heap.le_trans (Heap.le_put _ hb) (Heap.le_put _ hb2)) ⟨⟨b,0,none⟩,⟨b2,0,none⟩,rfl,?_,c1⟩)⟩
 refine Heap.cell?_le (Heap.le_put _ hb2) ?_
 rw [Heap.cell_put];rfl
theorem range_chunk{g0:Heap}{v:Value}{rows:Nat}(ic:IsChunk g0 v A (rows*cols) c cols)(hc:1<=cols)(hn:rows*cols<=1000000000)(hcap:rows*cols<=c){B:List Value->Heap->(Heap->Prop)->Prop}{K:Heap->Prop}(J:Nat->Heap->Prop)(h0:J 0 h)(hle:∀ k h,J k h->g0.le h)
 (hB:∀ k h1,k<rows->J k h1->B [.slice (cutA A ((k+1)*cols) (k*cols) 4) cols cols] h1 (J (k+1))) (hK:∀ h1,J rows h1->K h1):RangeF Tryz.prog v h B K:=by
 obtain ⟨f0,f1,rfl,e0,e1⟩:=ic
 refine ⟨f_MChunk1,#[],#[.pointer (some f0),.pointer (some f1)],rfl,MChunk1_enter,?_⟩
 intro l rec hl hround
 have ea:(#[] ++ #[.func (.yield l) #[] #[]] ++ #[.pointer (some f0),.pointer (some f1)]:Array Value)=#[.func (.yield l) #[] #[],.pointer (some f0),.pointer (some f1)]:=by simp
 rw [ea]
 refine MChunk1_ok l f0 f1 ?_
 unfold MChunk1
 refine ⟨fun L hp=>∃ (k:Nat) (h1:Heap),k<=rows/\L=[I ((k*cols:Nat):Int)]/\h1 l=none/\hp=h1.put l (.loop rec)/\J k h1,fun L _=>rows*cols-(iAt L 0).toNat,⟨0,h,by omega,by simp,hl,rfl,h0⟩,?_⟩
 rintro i hp ⟨k,h1,hk,eL,hl1,rfl,hJ⟩
 obtain rfl:i=((k*cols:Nat):Int):=by simpa using eL
 have lg:=Heap.le_trans (hle k h1 hJ) (Heap.le_put (.loop rec) hl1)
 have d0:=Heap.cell?_le lg e0
 have d1:=Heap.cell?_le lg e1
 refine ⟨_,_,_,d0,Br.dec (fun hlt=>?_) (fun hge=>?_)⟩
 ·have hkr:k<rows:=by
   by_cases hx:k<rows
   ·exact hx
   ·exfalso
    have:rows*cols<=k*cols:=Nat.mul_le_mul_right _ (by omega)
    omega
  have h2:(k+1)*cols<=rows*cols:=Nat.mul_le_mul_right _ hkr
  have h3:(k+1)*cols=k*cols+cols:=by rw [Nat.add_mul,Nat.one_mul]
  have em:(if ((rows*cols-(((k*cols:Nat):Int)).toNat:Nat):Int)<(cols:Int) then ((rows*cols-(((k*cols:Nat):Int)).toNat:Nat):Int) else (cols:Int))=(cols:Int):=by
   rw [if_neg (by simp only [Int.toNat_natCast];omega)]
  have ew:wi64 (((k*cols:Nat):Int)+(cols:Int))=(((k+1)*cols:Nat):Int):=by rw [wi64_id]<;>omega
  refine ⟨_,d1,_,_,_,d0,⟨by omega,by omega⟩,_,_,_,d0,?_⟩
  rw [em,ew]
  simp only [Int.toNat_natCast]
  have e5:(k+1)*cols-k*cols=cols:=by omega
  rw [e5]
  refine ⟨⟨by omega,by omega⟩,⟨by omega,by omega⟩,⟨by omega,by omega⟩,?_⟩
  refine (hround _ h1 (J (k+1)) hl1 (hB k h1 hkr hJ)).mono ?_
  rintro r h4 ⟨rfl,h5,hl5,rfl,hJ5⟩
  refine ⟨_,rfl,?_⟩
  show ∃ (t11:Int),_
  have lg5:=Heap.le_trans (hle _ h5 hJ5) (Heap.le_put (.loop rec) hl5)
  refine ⟨_,Heap.cell?_le lg5 e1,?_⟩
  rw [ew]
  exact ⟨⟨k+1,h5,by omega,rfl,hl5,rfl,hJ5⟩,by simp only [iAt0];omega⟩
 ·have hke:k=rows:=by
   by_cases hx:k=rows
   ·exact hx
   ·exfalso
    have:(k+1)*cols<=rows*cols:=Nat.mul_le_mul_right _ (by omega)
    rw [Nat.add_mul,Nat.one_mul] at this
    omega
  subst hke
  exact ⟨h1,hl1,rfl,hK h1 hJ⟩
end
end Go.Proofs.YthilnfgnpdeofaaGreatDoor
/-
 The table of a matrix in memory: NewTable.
-/
namespace Go.Proofs.YthilnfgnpdeofaaGreatDoor
open Go
set_option maxRecDepth 20000
section
variable {α:Type} [E:Enc α]
theorem OwnSl.push2{P:Program}{t e:TypeId}{z:Value}{bytes:Nat}(st:SliceT P t e z E.default.size bytes){h g o:Heap}{A:Option Addr}{c:Nat}{xs:List α}(s:Sep h g o)(w:OwnSl o e A c xs){v:Value}{y:α}(hv:v.cells=(enc y).toArray)(hsz:E.default.size<=1000)
 (hb:(2*(xs.length+1)+192)*bytes<=281474976710656) (hn:xs.length+1<=9223372036854775807) {K:Value->Heap->Prop}
 (x0:∀ B m d hp,h.le hp->(∀ {ty:TypeId} {K2:Value->Heap->Prop},(∀ A' c' h' g' o',g.le g'->Sep h' g' o'->OwnSl o' e A' c' (xs++[y])->(∀ k u,o k=some u->A≠some ⟨k,0,none⟩->o' k=some u/\A'≠some ⟨k,0,none⟩)->K2 (.slice A' (xs.length+1) c') h')->wpH P (Builtin.append_ #[t,t] ty #[.slice A xs.length c,.slice B m d]) K2 hp)->K (.slice B m d) hp):
 wpH P (Instr.buildSlice t 1 #[(0,v)]) K h:=by
 obtain ⟨gb,p,hkeep⟩:=w.priv s
 refine litAll_ok st (vs:=[v]) (fun u hu=>by rw [List.mem_singleton.1 hu,hv];simp [E.default.len]) rfl (by simp;omega) rfl ?_
 intro b hfree
 have hfl:[v].flatMap (fun v=>v.cells.toList)=[y].flatMap enc:=by simp [hv]
 rw [hfl]
 refine x0 _ _ _ _ (Heap.le_put _ hfree) (fun {ty K2} x=>?_)
 have p':PrivF (h.put b (.cells ([y].flatMap enc).toArray e)) (gb.put b (.cells ([y].flatMap enc).toArray e)) e A c xs:=Priv.put p hfree _
 refine appendF_ok st p' (ys:=[y]) rfl (blkF_sl e h b [y]) hb hn ?_
 intro A' c' h' g' hg hp
 rw [List.length_append]
 have hgk:∀ k u,h k=some u->A≠some ⟨k,0,none⟩->g' k=some u:=by
  intro k u e1 hne
  have hkb:k≠b:=by rintro rfl;rw [hfree] at e1;cases e1
  exact hg k u (by rw [Heap.put_other _ _ hkb];exact hkeep k u e1 hne)
 have hnA:∀ k u,g k=some u->A≠some ⟨k,0,none⟩:=by
  intro k u e1 hA
  rcases w.2 with ⟨_,h0⟩|⟨b',arr,hA',hb',_⟩
  ·rw [hA] at h0;cases h0
  ·rw [hA] at hA'
   simp only [Option.some.injEq,Addr.mk.injEq,and_true] at hA'
   subst hA'
   rw [s.dis k _ hb'] at e1;cases e1
 rcases hp.2.2 with ⟨hc0,_⟩|⟨b',arr,hA',hb',hh',ha,ht⟩
 ·exfalso
  have:=hp.2.1
  rw [List.length_append] at this
  simp at this
  omega
 ·subst hA'
  let o':Heap:=fun k=>if k=b' then some (.cells (List.toArray arr) e) else if A=some ⟨k,0,none⟩ then none else o k
  have ob:o' b'=some (.cells (List.toArray arr) e):=by show (if b'=b' then _ else _)=_;rw [if_pos rfl]
  have ok:∀ k,k≠b'->A≠some ⟨k,0,none⟩->o' k=o k:=fun k h1 h2=>by show (if k=b' then _ else if _ then _ else _)=_;rw [if_neg h1,if_neg h2]
  have ono:∀ k,k≠b'->A=some ⟨k,0,none⟩->o' k=none:=fun k h1 h2=>by show (if k=b' then _ else if _ then _ else _)=_;rw [if_neg h1,if_pos h2]
  let g2:Heap:=fun k=>match o' k with|some _=>none|none=>h' k
  have gs:∀ k u,o' k=some u->g2 k=none:=fun k u e1=>by show (match o' k with|some _=>none|none=>h' k)=_;rw [e1]
  have gn:∀ k,o' k=none->g2 k=h' k:=fun k e1=>by show (match o' k with|some _=>none|none=>h' k)=_;rw [e1]
  have hput:∀ k u,k≠b'->g' k=some u->h' k=some u:=fun k u h1 e1=>by rw [hh',Heap.put_other _ _ h1];exact e1
  have hown:∀ k u,o k=some u->A≠some ⟨k,0,none⟩->k≠b':=by
   rintro k u e1 h2 rfl
   have:=hgk k u (s.own k u e1) h2
   rw [hb'] at this;cases this
  refine x _ c' h' g2 o' (fun k u e1=>?_) ⟨fun k u e1=>?_,fun k e1=>(gn k e1).symm,gs⟩ ⟨hp.2.1,.inr ⟨b',arr,rfl,ob,ha,ht⟩⟩ (fun k u e1 h2=>?_)
  ·have hk0:o k=none:=by
    cases ho:o k with
    | none=>rfl
    | some y=>rw [s.dis k y ho] at e1;cases e1
   have hA:=hnA k u e1
   have e3:=hgk k u (s.le k u e1) hA
   have hkb':k≠b':=by rintro rfl;rw [hb'] at e3;cases e3
   rw [gn k (by rw [ok k hkb' hA];exact hk0)]
   exact hput k u hkb' e3
  ·by_cases hkb:k=b'
   ·subst hkb
    rw [ob] at e1;cases e1
    rw [hh',Heap.put_same]
   ·by_cases hA:A=some ⟨k,0,none⟩
    ·rw [ono k hkb hA] at e1;cases e1
    ·rw [ok k hkb hA] at e1
     exact hput k u hkb (hgk k u (s.own k u e1) hA)
  ·have hkb:=hown k u e1 h2
   refine ⟨by rw [ok k hkb h2];exact e1,fun h3=>hkb ?_⟩
   simp only [Option.some.injEq,Addr.mk.injEq,and_true] at h3
   exact h3.symm
end
theorem Sep.set1{P:Program}{t:TypeId}(one:P.cellsOf t=1/\(P.info? t).isSome=true){v:Value}(hv:oneC v=true)(hc:v.cells=#[v]){h g o:Heap}(s:Sep h g o){b:Nat}{cs:Array Value}{e:TypeId}(hb:o b=some (.cells cs e)){i:Nat}(hi:i<cs.size){K:Unit->Heap->Prop}
 (x:∀ h' o',Sep h' g o'->o'=o.put b (.cells (cs.setIfInBounds i v) e)->K () h'):wpH P (Instr.storeAt t (.pointer (some (Addr.add ⟨b,0,none⟩ i))) v) K h:=by
 rw [add_at,Nat.zero_add]
 have hput:h.put b (.cells cs e)=h:=Heap.put_self (s.own b _ hb)
 rw [<- hput]
 refine store1_ok one.1 one.2 hv hc hi ?_
 exact x _ _ (s.upd hb _) rfl
structure NT (o:Heap) (bp bt cols:Nat) (es:List IV) (ss:List QV) (A:Option Addr) (c:Nat) (A':Option Addr) (c':Nat):Prop where
 hp:∃ e,o bp=some (.cells #[.pointer (some ⟨bt,0,none⟩)] e)
 ht:∃ e,o bt=some (.cells #[I (cols:Int),.slice A es.length c,.slice A' ss.length c'] e)
 oe:OwnSl o ty_tZs_e A c es
 os:OwnSl o ty_tRqs_e A' c' ss
 ne:bp≠bt
 a1:A≠some ⟨bp,0,none⟩/\A≠some ⟨bt,0,none⟩
 a2:A'≠some ⟨bp,0,none⟩/\A'≠some ⟨bt,0,none⟩
 a3:∀ b,A=some ⟨b,0,none⟩->A'≠some ⟨b,0,none⟩
section
variable {h g o:Heap} {bp bt cols:Nat} {es:List IV} {ss:List QV} {A A':Option Addr} {c c':Nat}
theorem NT.cp(n:NT o bp bt cols es ss A c A' c')(s:Sep h g o):h.cell? ⟨bp,0,none⟩=some (.pointer (some ⟨bt,0,none⟩)):=by
 obtain ⟨e,he⟩:=n.hp
 refine s.cell ?_
 unfold Heap.cell?;simp only [he];rfl
theorem NT.c1(n:NT o bp bt cols es ss A c A' c')(s:Sep h g o):h.cell? (Addr.add ⟨bt,0,none⟩ 1)=some (.slice A es.length c):=by
 obtain ⟨e,he⟩:=n.ht
 refine s.cell ?_
 rw [add_at];unfold Heap.cell?;simp only [he];rfl
theorem NT.c2(n:NT o bp bt cols es ss A c A' c')(s:Sep h g o):h.cell? (Addr.add ⟨bt,0,none⟩ 2)=some (.slice A' ss.length c'):=by
 obtain ⟨e,he⟩:=n.ht
 refine s.cell ?_
 rw [add_at];unfold Heap.cell?;simp only [he];rfl
theorem slT_one1:Tryz.prog.cellsOf ty_tZs=1/\(Tryz.prog.info? ty_tZs).isSome=true:=by constructor<;>kernel_rfl
theorem slT_one2:Tryz.prog.cellsOf ty_tRqs=1/\(Tryz.prog.info? ty_tRqs).isSome=true:=by constructor<;>kernel_rfl
theorem NT.buildE(n:NT o bp bt cols es ss A c A' c')(s:Sep h g o)(w:IV)(hl:es.length<=100000000){F:Heap->Prop}(hF:∀ h' g' o' A2 c2,g.le g'->Sep h' g' o'->NT o' bp bt cols (es++[w]) ss A2 c2 A' c'->F h'){K:Value->Heap->Prop}
 (x:∀ B m d hp,h.le hp->hp.cell? ⟨bp,0,none⟩=some (.pointer (some ⟨bt,0,none⟩))->(∀ {K2:Value->Heap->Prop},(∀ A2 c2 h2,h2.cell? ⟨bp,0,none⟩=some (.pointer (some ⟨bt,0,none⟩))->wpH Tryz.prog (Instr.storeAt ty_tZs (.pointer (some (Addr.add ⟨bt,0,none⟩ 1))) (.slice A2 (es.length+1) c2)) (fun _ h3=>F h3) h2->K2 (.slice A2 (es.length+1) c2) h2)->wpH Tryz.prog (Builtin.append_ #[ty_tZs,ty_tZs] ty_tZs #[.slice A es.length c,.slice B m d]) K2 hp)->K (.slice B m d) hp):
 wpH Tryz.prog (Instr.buildSlice ty_tZs 1 #[(0,w.v)]) K h:=by
 refine OwnSl.push2 tZs s n.oe (y:=w) rfl (by decide) (by omega) (by omega) ?_
 intro B m d hp lp happ
 refine x B m d hp lp (Heap.cell?_le lp (n.cp s)) (fun {K2} hk=>happ ?_)
 intro A2 c2 h2 g2 o2 lg s2 ow keep
 obtain ⟨e1,he1⟩:=n.hp
 obtain ⟨e2,he2⟩:=n.ht
 have k1:=keep bp _ he1 n.a1.1
 have k2:=keep bt _ he2 n.a1.2
 refine hk A2 c2 h2 ?_ ?_
 ·refine s2.cell ?_
  unfold Heap.cell?;simp only [k1.1];rfl
 ·refine Sep.set1 slT_one1 rfl rfl s2 k2.1 (by simp) ?_
  intro h3 o3 s3 eo
  have ko:∀ k,k≠bt->o3 k=o2 k:=fun k hk=>by rw [eo,Heap.put_other _ _ hk]
  refine hF h3 g2 o3 A2 c2 lg s3 ⟨⟨e1,by rw [ko _ n.ne];exact k1.1⟩,⟨e2,by rw [eo,Heap.put_same];simp⟩,ow.keep fun b y hb he=>by rw [ko b (fun e=>k2.2 (by rw [<- e];exact hb))];exact he,?_,n.ne,⟨k1.2,k2.2⟩,n.a2,?_⟩
  ·refine (n.os.keep (o':=o2) fun b y hb he=>(keep b y he (fun e=>n.a3 b e hb)).1).keep fun b y hb he=>by rw [ko b (fun e=>n.a2.2 (by rw [<- e];exact hb))];exact he
  ·intro b hb hb'
   rcases n.os.2 with ⟨_,h0⟩|⟨b',arr,hA',hbo,_⟩
   ·rw [h0] at hb';cases hb'
   ·rw [hA'] at hb'
    simp only [Option.some.injEq,Addr.mk.injEq,and_true] at hb'
    subst hb'
    exact (keep b' _ hbo (fun e=>n.a3 b' e hA')).2 hb
theorem NT.buildS(n:NT o bp bt cols es ss A c A' c')(s:Sep h g o)(w:QV)(hl:ss.length<=100000000){F:Heap->Prop}(hF:∀ h' g' o' A2 c2,g.le g'->Sep h' g' o'->NT o' bp bt cols es (ss++[w]) A c A2 c2->F h'){K:Value->Heap->Prop}
 (x:∀ B m d hp,h.le hp->hp.cell? ⟨bp,0,none⟩=some (.pointer (some ⟨bt,0,none⟩))->(∀ {K2:Value->Heap->Prop},(∀ A2 c2 h2,h2.cell? ⟨bp,0,none⟩=some (.pointer (some ⟨bt,0,none⟩))->wpH Tryz.prog (Instr.storeAt ty_tRqs (.pointer (some (Addr.add ⟨bt,0,none⟩ 2))) (.slice A2 (ss.length+1) c2)) (fun _ h3=>F h3) h2->K2 (.slice A2 (ss.length+1) c2) h2)->wpH Tryz.prog (Builtin.append_ #[ty_tRqs,ty_tRqs] ty_tRqs #[.slice A' ss.length c',.slice B m d]) K2 hp)->K (.slice B m d) hp):
 wpH Tryz.prog (Instr.buildSlice ty_tRqs 1 #[(0,w.v)]) K h:=by
 refine OwnSl.push2 tRqs s n.os (y:=w) rfl (by decide) (by omega) (by omega) ?_
 intro B m d hp lp happ
 refine x B m d hp lp (Heap.cell?_le lp (n.cp s)) (fun {K2} hk=>happ ?_)
 intro A2 c2 h2 g2 o2 lg s2 ow keep
 obtain ⟨e1,he1⟩:=n.hp
 obtain ⟨e2,he2⟩:=n.ht
 have k1:=keep bp _ he1 n.a2.1
 have k2:=keep bt _ he2 n.a2.2
 refine hk A2 c2 h2 ?_ ?_
 ·refine s2.cell ?_
  unfold Heap.cell?;simp only [k1.1];rfl
 ·refine Sep.set1 slT_one2 rfl rfl s2 k2.1 (by simp) ?_
  intro h3 o3 s3 eo
  have ko:∀ k,k≠bt->o3 k=o2 k:=fun k hk=>by rw [eo,Heap.put_other _ _ hk]
  refine hF h3 g2 o3 A2 c2 lg s3 ⟨⟨e1,by rw [ko _ n.ne];exact k1.1⟩,⟨e2,by rw [eo,Heap.put_same];simp⟩,?_,ow.keep fun b y hb he=>by rw [ko b (fun e=>k2.2 (by rw [<- e];exact hb))];exact he,n.ne,n.a1,⟨k1.2,k2.2⟩,?_⟩
  ·refine (n.oe.keep (o':=o2) fun b y hb he=>(keep b y he (fun e=>n.a3 b hb e)).1).keep fun b y hb he=>by rw [ko b (fun e=>n.a1.2 (by rw [<- e];exact hb))];exact he
  ·intro b hb
   rcases n.oe.2 with ⟨_,h0⟩|⟨b',arr,hA,hbo,_⟩
   ·rw [h0] at hb;cases hb
   ·rw [hA] at hb
    simp only [Option.some.injEq,Addr.mk.injEq,and_true] at hb
    subst hb
    exact (keep b' _ hbo (fun e=>n.a3 b' hA e)).2
end
end Go.Proofs.YthilnfgnpdeofaaGreatDoor
/-
 The table of a matrix in memory: NewTable.
-/
namespace Go.Proofs.YthilnfgnpdeofaaGreatDoor
open Go
set_option maxRecDepth 20000
def rowF(E:Nat->Rat)(cols i:Nat):Nat->Rat:=fun j=>E (i*cols+j)
def rawZ(E:Nat->Rat)(cols i j:Nat):Int:=scl (rowF E cols i j) (lcmD (rowF E cols i) cols:Int)
def gcdZ(E:Nat->Rat)(cols i:Nat):Nat->Nat
 | 0=>0
 | j+1=>Int.gcd (gcdZ E cols i j:Int) (rawZ E cols i j)
def comZ(E:Nat->Rat)(cols i:Nat):Nat:=if gcdZ E cols i cols=0 then 1 else gcdZ E cols i cols
def tabM(E:Nat->Rat)(cols i j:Nat):Int:=(rawZ E cols i j).tdiv (comZ E cols i:Int)
def tabS(E:Nat->Rat)(cols i:Nat):Rat:=Rat.divInt (lcmD (rowF E cols i) cols:Int) (comZ E cols i:Int)
theorem gcdZ_dvd(E:Nat->Rat)(cols i:Nat):∀ n j,j<n->(gcdZ E cols i n:Int)∣rawZ E cols i j:=by
 intro n
 induction n with
 | zero=>intro j h;omega
 | succ n ih=>
  intro j hj
  by_cases e:j=n
  ·subst e;exact Int.gcd_dvd_right _ _
  ·exact Int.dvd_trans (Int.gcd_dvd_left _ _) (ih j (by omega))
theorem comZ_pos(E:Nat->Rat)(cols i:Nat):0<comZ E cols i:=by unfold comZ;split<;>omega
theorem comZ_dvd(E:Nat->Rat)(cols i:Nat){j:Nat}(hj:j<cols):(comZ E cols i:Int)∣rawZ E cols i j:=by
 unfold comZ
 split
 ·exact Int.one_dvd _
 ·exact gcdZ_dvd E cols i cols j hj
theorem tabM_eq(E:Nat->Rat)(cols i:Nat){j:Nat}(hj:j<cols):(tabM E cols i j:Rat)=tabS E cols i*E (i*cols+j):=by
 have hc:=comZ_pos E cols i
 have hc0:((comZ E cols i:Nat):Int)≠0:=by omega
 have h1:((tabM E cols i j:Int):Rat)*((comZ E cols i:Nat):Int)=E (i*cols+j)*((lcmD (rowF E cols i) cols:Nat):Int):=by
  rw [<- Rat.intCast_mul]
  unfold tabM
  rw [Int.tdiv_mul_cancel (comZ_dvd E cols i hj)]
  exact scl_eq (by
   have:=lcmD_dvd (rowF E cols i) cols j hj
   exact Int.natCast_dvd_natCast.2 this)
 have hne:=ratCast_ne hc0
 unfold tabS
 rw [Rat.divInt_eq_div]
 have h2:(((lcmD (rowF E cols i) cols:Nat):Int):Rat)/(((comZ E cols i:Nat):Int):Rat)*E (i*cols+j)=E (i*cols+j)*(((lcmD (rowF E cols i) cols:Nat):Int):Rat)/(((comZ E cols i:Nat):Int):Rat):=by
  rw [Rat.div_def,Rat.div_def];grind
 rw [h2,<- h1]
 generalize (((comZ E cols i:Nat):Int):Rat)=d at *
 rw [Rat.div_def]
 grind
theorem tabS_pos(E:Nat->Rat)(cols i:Nat):0<tabS E cols i:=by
 unfold tabS
 rw [Rat.divInt_eq_div]
 have h1:(0:Rat)<((lcmD (rowF E cols i) cols:Nat):Int):=by
  have:=lcmD_pos (rowF E cols i) cols
  exact_mod_cast this
 have h2:(0:Rat)<((comZ E cols i:Nat):Int):=by
  have:=comZ_pos E cols i
  exact_mod_cast this
 rw [Rat.div_def]
 exact Rat.mul_pos h1 (Rat.inv_pos.2 h2)
theorem ZB.gcd2{k:Nat}{x y:Int}(hx:ZB k x)(hy:ZB k y):ZB k (Int.gcd x y:Int):=by
 by_cases h:y=0
 ·subst h
  rw [Int.gcd_zero_right]
  unfold ZB at *
  simpa using hx
 ·exact ZB.gcd h hy
section
variable {E:Nat->Rat} {cols i m:Nat}
theorem rawZ_zb(h:∀ j,j<cols->Sz m (E (i*cols+j))){j:Nat}(hj:j<cols):ZB (1+cols*m+m) (rawZ E cols i j):=by
 have:=scl_zb (h j hj) (lcmD_zb (f:=rowF E cols i) cols h)
 exact this.mono (by omega)
theorem gcdZ_zb(h:∀ j,j<cols->Sz m (E (i*cols+j))):∀ j,j<=cols->ZB (1+cols*m+m) (gcdZ E cols i j:Int):=by
 intro j
 induction j with
 | zero=>intro _;exact ZB.zero
 | succ j ih=>intro hj;exact (ih (by omega)).gcd2 (rawZ_zb h (by omega))
theorem comZ_zb(h:∀ j,j<cols->Sz m (E (i*cols+j))):ZB (1+cols*m+m) (comZ E cols i:Int):=by
 unfold comZ
 split
 ·exact ZB.one (by omega)
 ·exact gcdZ_zb h cols (Nat.le_refl _)
theorem tabM_zb(h:∀ j,j<cols->Sz m (E (i*cols+j))){j:Nat}(hj:j<cols):ZB (1+cols*m+m) (tabM E cols i j):=(rawZ_zb h hj).tdiv
theorem tabS_sz(h:∀ j,j<cols->Sz m (E (i*cols+j))):Sz (1+cols*m+m) (tabS E cols i):=by
 have:=comZ_pos E cols i
 exact Sz.divInt (by omega) ((lcmD_zb (f:=rowF E cols i) cols h).mono (by omega)) (comZ_zb h)
end
structure EsOk (g:Heap) (E:Nat->Rat) (cols k:Nat) (es:List IV) (V:Nat->Int) (j:Nat):Prop where
 len:es.length=k*cols+j
 rows:∀ a b,a<k->b<cols->∃ w,es[a*cols+b]? = some w/\ZIr g w (tabM E cols a b)
 last:∀ b,b<j->∃ w,es[k*cols+b]? = some w/\ZIr g w (V b)
theorem EsOk.mono{g g':Heap}{E:Nat->Rat}{cols k j:Nat}{es:List IV}{V:Nat->Int}(e:EsOk g E cols k es V j)(l:g.le g'):EsOk g' E cols k es V j:=by
 refine ⟨e.len,fun a b h1 h2=>?_,fun b h1=>?_⟩
 ·obtain ⟨w,e1,hw⟩:=e.rows a b h1 h2;exact ⟨w,e1,monZI _ _ _ _ l hw⟩
 ·obtain ⟨w,e1,hw⟩:=e.last b h1;exact ⟨w,e1,monZI _ _ _ _ l hw⟩
theorem EsOk.push{g:Heap}{E:Nat->Rat}{cols k j:Nat}{es:List IV}{V:Nat->Int}(e:EsOk g E cols k es V j){w:IV}(hw:ZIr g w (V j)):EsOk g E cols k (es++[w]) V (j+1):=by
 have hl:=e.len
 refine ⟨by rw [List.length_append,e.len];rfl,fun a b h1 h2=>?_,fun b h1=>?_⟩
 ·obtain ⟨u,e1,hu⟩:=e.rows a b h1 h2
  have hlt:=idx_lt h1 h2
  exact ⟨u,by rw [List.getElem?_append_left (by omega)];exact e1,hu⟩
 ·by_cases eb:b=j
  ·subst eb
   exact ⟨w,by rw [List.getElem?_append_right (by omega),hl];simp,hw⟩
  ·obtain ⟨u,e1,hu⟩:=e.last b (by omega)
   exact ⟨u,by rw [List.getElem?_append_left (by omega)];exact e1,hu⟩
theorem EsOk.set{g:Heap}{E:Nat->Rat}{cols k:Nat}{es:List IV}{V:Nat->Int}(e:EsOk g E cols k es V cols){b:Nat}(hb:b<cols){w:IV}{z:Int}(hw:ZIr g w z):EsOk g E cols k (es.set (k*cols+b) w) (fun x=>if x=b then z else V x) cols:=by
 have hl:=e.len
 refine ⟨by simpa using hl,fun a b' h1 h2=>?_,fun b' h1=>?_⟩
 ·obtain ⟨u,e1,hu⟩:=e.rows a b' h1 h2
  have hlt:=idx_lt h1 h2
  exact ⟨u,by rw [List.getElem?_set_ne (by omega)];exact e1,hu⟩
 ·by_cases eb:b'=b
  ·subst eb
   exact ⟨w,by rw [List.getElem?_set_self (by omega)],by show ZIr g w (if b'=b' then z else V b');rw [if_pos rfl];exact hw⟩
  ·obtain ⟨u,e1,hu⟩:=e.last b' h1
   exact ⟨u,by rw [List.getElem?_set_ne (by omega)];exact e1,by show ZIr g u (if b'=b then z else V b');rw [if_neg eb];exact hu⟩
theorem EsOk.congr{g:Heap}{E:Nat->Rat}{cols k j:Nat}{es:List IV}{V V':Nat->Int}(e:EsOk g E cols k es V j)(h:∀ b,b<j->V b=V' b):EsOk g E cols k es V' j:=
 ⟨e.len,e.rows,fun b hb=>by rw [<- h b hb];exact e.last b hb⟩
theorem EsOk.next{g:Heap}{E:Nat->Rat}{cols k:Nat}{es:List IV}{V:Nat->Int}(e:EsOk g E cols k es V cols)(h:∀ b,b<cols->V b=tabM E cols k b)(V':Nat->Int):EsOk g E cols (k+1) es V' 0:=by
 refine ⟨by rw [e.len,Nat.add_mul,Nat.one_mul];rfl,fun a b h1 h2=>?_,fun b h1=>by omega⟩
 by_cases ea:a=k
 ·subst ea;rw [<- h b h2];exact e.last b h2
 ·exact e.rows a b (by omega) h2
section
variable {h g:Heap} {K:Value->Heap->Prop} {A:Option Addr} {n c rows cols m:Nat} {E:Nat->Rat}
theorem newTable_spec(gl:Gl h)(r:RowV RQr h A (rows*cols) E)(hcap:rows*cols<=c)(hr:1<=rows)(hr2:rows<=10000)(hc:1<=cols)(hc2:cols<=10000)(hs:∀ i,i<rows*cols->Sz m (E i))(hm:1+cols*m+m<=6400000000)
 (hK:∀ h' g' o' T,h.le g'->Tab h' g' o' T (tabM E cols) (tabS E cols)->T.rows=rows->T.cols=cols->K (.pointer (some ⟨T.bt,0,none⟩)) h'):FCall Tryz.prog f_MNewTable #[.slice A (rows*cols) c,I (cols:Int)] h K:=by
 refine MNewTable_ok _ _ _ _ ?_
 unfold MNewTable
 have hrc:rows*cols<=100000000:=by
  have:rows*cols<=10000*10000:=Nat.mul_le_mul hr2 hc2
  omega
 refine box_ok' ?_
 intro bt hbt
 refine ⟨_,rfl,alloc_ok (z:=.pointer none) (by kernel_rfl) ?_⟩
 intro bp hbp
 have hne:bp≠bt:=by rintro rfl;rw [Heap.put_same] at hbp;cases hbp
 refine ⟨_,rfl,?_⟩
 refine store1_ok (by kernel_rfl) (by kernel_rfl) rfl rfl (by decide) ?_
 have s0:=((Sep.refl h).new hbt (.cells (Value.cells (.agg #[I (cols:Int),.slice none 0 0,.slice none 0 0])) ty_tTable)).new hbp (.cells ((Value.cells (.pointer none)).setIfInBounds 0 (.pointer (some ⟨bt,0,none⟩))) ty_tPTable)
 have n0:NT ((noHeap.put bt (.cells (Value.cells (.agg #[I (cols:Int),.slice none 0 0,.slice none 0 0])) ty_tTable)).put bp (.cells ((Value.cells (.pointer none)).setIfInBounds 0 (.pointer (some ⟨bt,0,none⟩))) ty_tPTable)) bp bt cols [] [] none 0 none 0:=
  ⟨⟨_,Heap.put_same _ _ _⟩,⟨_,by rw [Heap.put_other _ _ hne.symm,Heap.put_same];rfl⟩,OwnSl.nil,OwnSl.nil,hne,⟨by simp,by simp⟩,⟨by simp,by simp⟩,fun b hb=>by cases hb⟩
 generalize (noHeap.put bt (.cells (Value.cells (.agg #[I (cols:Int),.slice none 0 0,.slice none 0 0])) ty_tTable)).put bp (.cells ((Value.cells (.pointer none)).setIfInBounds 0 (.pointer (some ⟨bt,0,none⟩))) ty_tPTable)=o0 at s0 n0
 refine s0.call (chunk_spec hc ?_)
 intro v g0 l0 ic hp3 s3
 have bound:∀ k,k<rows->∀ j,j<cols->Sz m (E (k*cols+j)):=fun k hk j hj=>hs _ (idx_lt hk hj)
 refine ⟨_,rfl,range_chunk ic hc (by omega) hcap (fun k hp=>∃ (g1 o1:Heap) (es:List IV) (ss:List QV) (A1:Option Addr) (c1:Nat) (A2:Option Addr) (c2:Nat),g0.le g1/\Sep hp g1 o1/\NT o1 bp bt cols es ss A1 c1 A2 c2/\EsOk g1 E cols k es (fun _=>0) 0/\ss.length=k/\Row RQr g1 ss k (tabS E cols)) ?_ ?_ ?_ ?_⟩
 ·exact ⟨g0,o0,[],[],none,0,none,0,Heap.le_refl _,s3,n0,⟨by simp,fun a b h1=>by omega,fun b h1=>by omega⟩,rfl,Row.nil⟩
 ·rintro k hp ⟨g1,o1,es,ss,A1,c1,A2,c2,lg,s1,_⟩
  exact Heap.le_trans lg s1.le
 ·rintro k hp4 hkr ⟨g1,o1,es,ss,A1,c1,A2,c2,lg1,s4,n1,e1,hss,rs⟩
  have bk:=bound k hkr
  have hkc:(k+1)*cols<=rows*cols:=Nat.mul_le_mul_right _ hkr
  have hk1:(k+1)*cols=k*cols+cols:=by rw [Nat.add_mul,Nat.one_mul]
  have hkc2:k<=k*cols:=Nat.le_mul_of_pos_right k hc
  have lh1:=Heap.le_trans l0 lg1
  have row0:RowV RQr h A ((k+1)*cols) E:=by
   have:=r.cut (c:=c) (l:=0) (k:=(k+1)*cols) (by omega) hcap
   rw [cutA_zero] at this
   exact this.congr fun i _=>by rw [Nat.zero_add]
  have row1:RowV RQr h (cutA A ((k+1)*cols) (k*cols) 4) cols (rowF E cols k):=row0.cut (c:=(k+1)*cols) (l:=k*cols) (k:=cols) (by omega) (Nat.le_refl _)
  refine ⟨_,_,_,rfl,s4.call (commonDen_spec (gl.mono lh1) (row1.mono monRQ lh1) (by omega) bk hm ?_)⟩
  intro sd Ad nd cd g2 l2 id hp5 s5
  have cE:=n1.c1 s5
  rw [e1.len,Nat.add_zero] at cE
  have d2:=lcmD_zb (f:=rowF E cols k) cols bk
  have hmk:1+cols*m<=1+cols*m+m:=by omega
  refine ⟨_,_,_,_,rfl,_,n1.cp s5,_,rfl,_,_,_,cE,fun L hp=>∃ (j:Nat) (s:Bool) (B:Option Addr) (bn bc:Nat) (g3 o3:Heap) (es:List IV) (A1:Option Addr) (c1:Nat),j<=cols/\L=[I (j:Int),.bool s,.slice B bn bc]/\g2.le g3/\Sep hp g3 o3/\NT o3 bp bt cols es ss A1 c1 A2 c2/\EsOk g3 E cols k es (rawZ E cols k) j/\ZI g3 s B bn bc (gcdZ E cols k j:Int),
   fun L _=>cols-(iAt L 0).toNat,⟨0,false,none,0,0,g2,o1,es,A1,c1,by omega,rfl,Heap.le_refl _,s5,n1,(e1.mono l2).congr (fun b hb=>by omega),ZI.zero⟩,?_⟩
  rintro z bs bA bn bc hp6 ⟨j,sB,B,bn',bc',g3,o3,es3,A3,c3,hj,eL,l3,s6,n3,e3,i3⟩
  simp only [List.cons.injEq,Value.int.injEq,Value.bool.injEq,Value.slice.injEq,true_and,and_true] at eL
  obtain ⟨rfl,rfl,rfl,rfl,rfl⟩:=eL
  have ewj:wi64 ((j:Int)+1)=((j+1:Nat):Int):=by rw [wi64_id]<;>omega
  have lh3:=Heap.le_trans lh1 (Heap.le_trans l2 l3)
  refine Br.dec (fun hlt=>?_) (fun hge=>?_)
  ·have hjc:j<cols:=by omega
   obtain ⟨a,w,ea,iw,q0,q1,q2,q3⟩:=row1.qat hjc
   have lh6:=Heap.le_trans lh3 s6.le
   refine ⟨a,ea,by omega,by omega,_,_,_,_,_,_,_,_,Heap.cell?_le lh6 q0,Heap.cell?_le lh6 q1,Heap.cell?_le lh6 q2,Heap.cell?_le lh6 q3,?_⟩
   refine s6.call (scaled_spec (m:=1+cols*m+m) (monRQ _ _ _ _ lh3 iw) (id.mono l3) ((bk j hjc).mono (by omega)) (d2.mono hmk) hm ?_)
   intro s7 A7 n7 c7 g7 l7 i7 hp7 sp7
   refine ⟨_,_,_,_,rfl,sp7.call (zgcd_spec (gl.mono (Heap.le_trans lh3 l7)).tz (i3.mono l7) i7 (gcdZ_zb bk j hj) (rawZ_zb bk hjc) hm ?_)⟩
   intro A8 n8 c8 g8 l8 i8 hp8 sp8
   have z7:ZIr g8 ⟨s7,A7,n7,c7⟩ (rawZ E cols k j):=i7.mono l8
   have hF:∀ h' g' o' A2' c2',g8.le g'->Sep h' g' o'->NT o' bp bt cols (es3++[⟨s7,A7,n7,c7⟩]) ss A2' c2' A2 c2->(∃ (j':Nat) (s:Bool) (B:Option Addr) (bn bc:Nat) (g3 o3:Heap) (es:List IV) (A1:Option Addr) (c1:Nat),j'<=cols/\[I (wi64 ((j:Int)+1)),.bool false,.slice A8 n8 c8]=[I (j':Int),.bool s,.slice B bn bc]/\g2.le g3/\Sep h' g3 o3/\NT o3 bp bt cols es ss A1 c1 A2 c2/\EsOk g3 E cols k es (rawZ E cols k) j'/\ZI g3 s B bn bc (gcdZ E cols k j':Int))/\cols-(iAt [I (wi64 ((j:Int)+1)),.bool false,.slice A8 n8 c8] 0).toNat<cols-(iAt [I (j:Int),.bool bs,.slice bA bn bc] 0).toNat:=by
    intro h' g' o' A2' c2' lg' s' n'
    rw [ewj]
    refine ⟨⟨j+1,false,A8,n8,c8,g',o',_,A2',c2',by omega,rfl,Heap.le_trans l3 (Heap.le_trans l7 (Heap.le_trans l8 lg')),s',n',((e3.mono (Heap.le_trans l7 l8)).push z7).mono lg',i8.mono lg'⟩,by simp only [iAt0];omega⟩
   have hel:es3.length<=100000000:=by have:=e3.len;omega
   refine ⟨_,_,_,_,rfl,_,n3.cp sp8,_,rfl,_,_,_,n3.c1 sp8,⟨_,n3.cp sp8,?_⟩,?_⟩
   ·exact n3.buildE sp8 ⟨s7,A7,n7,c7⟩ hel hF fun B m d hp lp cp happ=>⟨_,_,_,rfl,lp,happ fun A2 c2 h2 _ hst=>⟨_,_,_,rfl,_,rfl,hst⟩⟩
   ·exact n3.buildE sp8 ⟨s7,A7,n7,c7⟩ hel hF fun B m d hp lp cp happ=>⟨_,_,_,rfl,lp,⟨_,cp,happ fun A2 c2 h2 _ hst=>⟨_,_,_,rfl,_,rfl,hst⟩⟩,happ fun A2 c2 h2 cp2 hst=>⟨_,_,_,rfl,_,cp2,_,rfl,hst⟩⟩
  ·have hjc:j=cols:=by omega
   subst hjc
   have hg:((gcdZ E j k j:Nat):Int)=0↔gcdZ E j k j=0:=by omega
   refine ⟨fun L hp=>∃ (s:Bool) (B:Option Addr) (bn bc:Nat) (g4:Heap),L=[.bool s,.slice B bn bc]/\g3.le g4/\Sep hp g4 o3/\ZI g4 s B bn bc (comZ E j k:Int),?_,?_⟩
   ·refine s6.call (zisZero_spec i3 ?_)
    intro hp7 s7
    refine ⟨_,rfl,Br.dec (fun e=>?_) (fun e=>?_)⟩
    ·refine s7.call (znew_spec (by omega) (by omega) ?_)
     intro s8 A8 n8 c8 g8 l8 i8 hp8 sp8
     refine ⟨_,_,_,_,rfl,_,_,_,_,g8,rfl,l8,sp8,?_⟩
     have:comZ E j k=1:=by unfold comZ;rw [if_pos (hg.1 e)]
     rw [this];exact i8
    ·refine ⟨_,_,_,_,g3,rfl,Heap.le_refl _,s7,?_⟩
     have:comZ E j k=gcdZ E j k j:=by unfold comZ;rw [if_neg (fun x=>e (hg.2 x))]
     rw [this];exact i3
   ·rintro cs cA cn cc hp7 ⟨cs',cA',cn',cc',g4,eL,l4,s7,ic⟩
    obtain ⟨rfl,rfl,rfl,rfl⟩:cs=cs'/\cA=cA'/\cn=cn'/\cc=cc':=by simpa using eL
    have e4:=e3.mono l4
    have cE4:=n3.c1 s7
    rw [e4.len] at cE4
    have hne4:es3≠[]:=by rintro rfl;have:=e4.len;simp at this;omega
    obtain ⟨bE,hbE,rB⟩:=n3.oe.rowB hne4
    subst hbE
    have hc3:k*j+j<=c3:=by have:=n3.oe.1;rw [e4.len] at this;exact this
    have ekn:(((k*j:Nat):Int)).toNat=k*j:=rfl
    have ecut:cutA (some ⟨bE,0,none⟩) c3 ((((k*j:Nat):Int)).toNat) 2=some ⟨bE,k*j*2,none⟩:=by rw [ekn,cutA_some (by omega),add_at,Nat.zero_add]
    have esub:k*j+j-(((k*j:Nat):Int)).toNat=j:=by rw [ekn];omega
    refine ⟨_,n3.cp s7,_,rfl,_,_,_,cE4,⟨by omega,by omega⟩,?_⟩
    rw [ecut,esub]
    refine ⟨fun L hp=>∃ (jj:Nat) (g o:Heap) (es:List IV),jj<=j/\L=[I (jj:Int)]/\g4.le g/\Sep hp g o/\NT o bp bt j es ss (some ⟨bE,0,none⟩) c3 A2 c2/\EsOk g E j k es (fun b=>if b<jj then tabM E j k b else rawZ E j k b) j,fun L _=>j-(iAt L 0).toNat,⟨0,g4,o3,es3,by omega,rfl,Heap.le_refl _,s7,n3,e4.congr fun b hb=>by rw [if_neg (by omega)]⟩,?_⟩
    rintro z hp8 ⟨jj,g5,o5,es5,hjj,eL,l5,s8,n5,e5⟩
    obtain rfl:z=(jj:Int):=by simpa using eL
    have ewj2:wi64 ((jj:Int)+1)=((jj+1:Nat):Int):=by rw [wi64_id]<;>omega
    have ewk:wi64 (((k*j:Nat):Int)+(jj:Int))=((k*j+jj:Nat):Int):=by rw [wi64_id]<;>omega
    have cE5:=n5.c1 s8
    rw [e5.len] at cE5
    have hcom0:=comZ_pos E j k
    refine Br.dec (fun hlt=>?_) (fun hge=>?_)
    ·have hjc:jj<j:=by omega
     obtain ⟨w,ew,iw⟩:=e5.last jj hjc
     rw [if_neg (Nat.lt_irrefl jj)] at iw
     obtain ⟨bE',hbE',rB5⟩:=n5.oe.rowB (by rintro rfl;have:=e5.len;simp at this;omega)
     simp only [Option.some.injEq,Addr.mk.injEq,and_true] at hbE'
     subst hbE'
     have hlt5:k*j+jj<es5.length:=by have:=e5.len;omega
     have hew:es5[k*j+jj]=w:=by
      rw [List.getElem?_eq_getElem hlt5] at ew
      cases ew;rfl
     have ha:k*j*2+jj*2=(k*j+jj)*2:=by rw [Nat.add_mul]
     have cell:∀ x v,(enc w)[x]? = some v->hp8.cell? (Addr.add (Addr.add ⟨bE,k*j*2,none⟩ (((jj:Int)).toNat*2)) x)=some v:=by
      intro x v hx
      refine s8.cell ?_
      rw [add_at,add_at]
      show o5.cell? ⟨bE,k*j*2+jj*2+x,none⟩=_
      rw [ha]
      exact rB5.cell hlt5 (by rw [hew];exact hx)
     refine ⟨_,rfl,by omega,by omega,_,_,_,_,cell 0 _ rfl,cell 1 _ rfl,_,n5.cp s8,_,rfl,_,_,_,cE5,?_⟩
     refine s8.call (zquo_spec iw (ic.mono l5) (rawZ_zb bk hjc) (comZ_zb bk) hm (by omega) ?_)
     intro s9 A9 n9 c9 g9 l9 i9 hp9 sp9
     refine ⟨_,_,_,_,rfl,s8.le_le sp9 l9,_,rfl,by omega,by omega,?_⟩
     rw [ewk]
     refine OwnSl.store tZs_one (y:=(⟨s9,A9,n9,c9⟩:IV)) rfl sp9 n5.oe hlt5 rfl ?_
     intro hp10 o10 s10 ow10 ko
     obtain ⟨x1,hx1⟩:=n5.hp
     obtain ⟨x2,hx2⟩:=n5.ht
     have b1:bp≠bE:=fun e=>n5.a1.1 (by rw [e])
     have b2:bt≠bE:=fun e=>n5.a1.2 (by rw [e])
     rw [ewj2]
     refine ⟨⟨jj+1,g9,o10,es5.set (k*j+jj) ⟨s9,A9,n9,c9⟩,by omega,rfl,Heap.le_trans l5 l9,s10,⟨⟨x1,by rw [ko _ b1];exact hx1⟩,⟨x2,by rw [ko _ b2,List.length_set];exact hx2⟩,ow10,n5.os.keep fun b x hb hx=>by rw [ko b (fun e=>n5.a3 bE rfl (by rw [<- e];exact hb))];exact hx,n5.ne,n5.a1,n5.a2,n5.a3⟩,((e5.mono l9).set hjc (show ZIr g9 ⟨s9,A9,n9,c9⟩ (tabM E j k jj) from i9)).congr fun b hb=>?_⟩,by simp only [iAt0];omega⟩
     show (if b=jj then tabM E j k jj else if b<jj then tabM E j k b else rawZ E j k b)=if b<jj+1 then tabM E j k b else rawZ E j k b
     by_cases eb:b=jj
     ·subst eb;rw [if_pos rfl,if_pos (by omega)]
     ·rw [if_neg eb]
      by_cases h7:b<jj
      ·rw [if_pos h7,if_pos (by omega)]
      ·rw [if_neg h7,if_neg (by omega)]
    ·have hje:jj=j:=by omega
     subst hje
     have eN:EsOk g5 E jj (k+1) es5 (fun _=>0) 0:=e5.next (fun b hb=>by rw [if_pos hb]) _
     have sS:=tabS_sz (E:=E) (cols:=jj) (i:=k) bk
     have fr:∀ (gg:Heap) (w:QV),g5.le gg->RQ gg w (Rat.divInt (lcmD (rowF E jj k) jj:Int) (comZ E jj k:Int))->∀ h' g' o' A2' c2',gg.le g'->Sep h' g' o'->NT o' bp bt jj es5 (ss++[w]) (some ⟨bE,0,none⟩) c3 A2' c2'->∃ (g1 o1:Heap) (es:List IV) (ss:List QV) (A1:Option Addr) (c1:Nat) (A2:Option Addr) (c2:Nat),g0.le g1/\Sep h' g1 o1/\NT o1 bp bt jj es ss A1 c1 A2 c2/\EsOk g1 E jj (k+1) es (fun _=>0) 0/\ss.length=k+1/\Row RQr g1 ss (k+1) (tabS E jj):=by
      intro gg w lgg iw h' g' o' A2' c2' lg' s' n'
      have lall:g1.le g':=Heap.le_trans l2 (Heap.le_trans l3 (Heap.le_trans l4 (Heap.le_trans l5 (Heap.le_trans lgg lg'))))
      refine ⟨g',o',es5,ss++[w],_,c3,A2',c2',Heap.le_trans lg1 lall,s',n',eN.mono (Heap.le_trans lgg lg'),by simp [hss],?_⟩
      have rs':Row RQr g' ss ss.length (tabS E jj):=by rw [hss];exact rs.mono monRQ lall
      have:=rs'.push (w:=w) (by rw [hss];exact monRQ _ _ _ _ lg' iw)
      rw [List.length_append,hss] at this
      exact this
     have glf:=(gl.mono (Heap.le_trans lh3 (Heap.le_trans l4 l5))).tz
     have idf:=(id.mono (Heap.le_trans l3 (Heap.le_trans l4 l5)))
     have hsl:ss.length<=100000000:=by omega
     refine ⟨_,n5.cp s8,_,rfl,_,_,_,n5.c2 s8,⟨_,n5.cp s8,?_⟩,?_⟩
     ·refine s8.call (fraction_spec glf idf (ic.mono l5) (d2.mono hmk) (comZ_zb bk) hm ?_)
      intro w gf lf iw hp9 s9
      refine ⟨_,_,_,_,_,_,_,_,rfl,s8.le_le s9 lf,?_⟩
      exact n5.buildS s9 w hsl (fr gf w lf iw) fun B m d hp lp cp happ=>⟨_,_,_,rfl,lp,happ fun A2 c2 h2 _ hst=>⟨_,_,_,rfl,_,rfl,hst⟩⟩
     ·refine s8.call (fraction_spec glf idf (ic.mono l5) (d2.mono hmk) (comZ_zb bk) hm ?_)
      intro w gf lf iw hp9 s9
      refine ⟨_,_,_,_,_,_,_,_,rfl,s8.le_le s9 lf,⟨_,n5.cp s9,?_⟩,?_⟩
      ·exact n5.buildS s9 w hsl (fr gf w lf iw) fun B m d hp lp cp happ=>⟨_,_,_,rfl,lp,happ fun A2 c2 h2 _ hst=>⟨_,_,_,rfl,_,rfl,hst⟩⟩
      ·exact n5.buildS s9 w hsl (fr gf w lf iw) fun B m d hp lp cp happ=>⟨_,_,_,rfl,lp,⟨_,cp,happ fun A2 c2 h2 _ hst=>⟨_,_,_,rfl,_,rfl,hst⟩⟩,happ fun A2 c2 h2 cp2 hst=>⟨_,_,_,rfl,_,cp2,_,rfl,hst⟩⟩
 ·rintro hp ⟨g1,o1,es,ss,A1,c1,A2,c2,lg,s1,n1,e1,hss,rs⟩
  refine ⟨_,n1.cp s1,?_⟩
  have hel:es.length=rows*cols:=by rw [e1.len];rfl
  have hpos:0<rows*cols:=Nat.mul_pos (by omega) (by omega)
  obtain ⟨bE,hbE,rE⟩:=n1.oe.rowB (by rintro rfl;simp at hel;omega)
  obtain ⟨bS,hbS,rS⟩:=n1.os.rowB (by rintro rfl;simp at hss;omega)
  subst hbE hbS
  obtain ⟨x2,hx2⟩:=n1.ht
  refine hK hp g1 o1 ⟨bt,bE,bS,rows,cols,c1,c2⟩ (Heap.le_trans l0 lg) ⟨s1,fun (e:bt=bE)=>n1.a1.2 (by rw [<- e]),fun (e:bt=bS)=>n1.a2.2 (by rw [<- e]),fun (e:bE=bS)=>n1.a3 bE rfl (by rw [e]),⟨x2,by rw [hx2,hel,hss]⟩,⟨es,rE,hel,fun i j hi hj=>e1.rows i j hi hj⟩,⟨ss,rS,hss,rs⟩,by rw [<- hel];exact n1.oe.1,by rw [<- hss];exact n1.os.1,⟨hr2,hc2⟩,hc⟩ rfl rfl
end
end Go.Proofs.YthilnfgnpdeofaaGreatDoor
/-
 Matrices as the program reads and writes them;Reduce.
-/
namespace Go.Proofs.YthilnfgnpdeofaaGreatDoor
open Go
set_option maxRecDepth 20000
def NotU(c:Array Value):Prop:=∀ (i:Nat) (n:Int),c[i]? ≠ some (Value.int .u64 n)
theorem SlI.without{h:Heap}{A:Option Addr}{xs:List Int}{b:Nat}{c:Array Value}{e:TypeId}(hb:h b=some (.cells c e))(hc:NotU c)(s:SlI .u64 h A xs):SlI .u64 (h.without b) A xs:=by
 rcases s with s|⟨a,ha,hcell⟩
 ·exact .inl s
 ·by_cases hx:xs=[]
  ·subst hx;exact SlI.nil
  ·right
   refine ⟨a,ha,fun i v hv=>?_⟩
   have h1:=hcell i v hv
   have hne:a.block≠b:=by
    rintro rfl
    obtain ⟨x,hx⟩:∃ x,v= .int .u64 x:=by
     rw [List.getElem?_map] at hv
     cases hy:xs[i]? with
     | none=>rw [hy] at hv;cases hv
     | some y=>rw [hy] at hv;exact ⟨y,(Option.some.inj hv).symm⟩
    subst hx
    unfold Heap.cell? at h1
    rw [add_block,hb] at h1
    simp only at h1
    split at h1
    ·cases h1
    ·exact hc _ _ h1
   unfold Heap.cell? at h1 ⊢
   rw [add_block] at h1 ⊢
   unfold Heap.without
   rw [if_neg hne];exact h1
theorem ZI.without{h:Heap}{s:Bool}{A:Option Addr}{n c:Nat}{z:Int}{b:Nat}{cs:Array Value}{e:TypeId}(hb:h b=some (.cells cs e))(hc:NotU cs)(i:ZI h s A n c z):ZI (h.without b) s A n c z:=by
 obtain ⟨i1,⟨xs,s1,s2,s3⟩,i3⟩:=i
 exact ⟨i1,⟨xs,s1,SlI.without hb hc s2,s3⟩,i3⟩
theorem RQ.without{h:Heap}{w:QV}{q:Rat}{b:Nat}{cs:Array Value}{e:TypeId}(hb:h b=some (.cells cs e))(hc:NotU cs)(i:RQ h w q):RQ (h.without b) w q:=⟨ZI.without hb hc i.num,ZI.without hb hc i.den⟩
theorem notU_flat(xs:List QV):NotU (xs.flatMap enc).toArray:=by
 intro i n h
 have h':(xs.flatMap enc)[i]? = some (.int .u64 n):=by simpa using h
 have hm:=List.mem_of_getElem? h'
 obtain ⟨x,_,hx⟩:=List.mem_flatMap.1 hm
 have hx':(.int .u64 n:Value)∈[.bool x.s,.slice x.A x.n x.c,.bool x.s2,.slice x.A2 x.n2 x.c2]:=hx
 simp at hx'
theorem Sep.grab{h g o:Heap}(s:Sep h g o){b:Nat}{x:Obj}(hb:g b=some x):Sep h (g.without b) (o.put b x):=by
 have hob:o b=none:=by
  cases ho:o b with
  | none=>rfl
  | some y=>rw [s.dis b y ho] at hb;cases hb
 refine ⟨fun k y e=>?_,fun k e=>?_,fun k y e=>?_⟩
 ·by_cases hk:k=b
  ·subst hk
   rw [Heap.put_same] at e;cases e
   exact s.le k _ hb
  ·rw [Heap.put_other _ _ hk] at e;exact s.own k y e
 ·by_cases hk:k=b
  ·subst hk;rw [Heap.put_same] at e;cases e
  ·rw [Heap.put_other _ _ hk] at e
   unfold Heap.without
   rw [if_neg hk];exact s.rest k e
 ·by_cases hk:k=b
  ·subst hk;exact Heap.without_none _ _
  ·rw [Heap.put_other _ _ hk] at e
   unfold Heap.without
   rw [if_neg hk];exact s.dis k y e
theorem Heap.le_without{h g:Heap}{b:Nat}(l:h.le g)(hb:h b=none):h.le (g.without b):=fun k x e=>by
 have hk:k≠b:=by rintro rfl;rw [hb] at e;cases e
 unfold Heap.without
 rw [if_neg hk];exact l k x e
theorem Tab.grab{h g o:Heap}{T:Tb}{M:Nat->Nat->Int}{S:Nat->Rat}(t:Tab h g o T M S){b:Nat}{cs:Array Value}{e:TypeId}(hb:g b=some (.cells cs e))(hc:NotU cs):Tab h (g.without b) (o.put b (.cells cs e)) T M S:=by
 have hob:∀ k x,o k=some x->k≠b:=by rintro k x e rfl;rw [t.sep.dis k x e] at hb;cases hb
 refine ⟨t.sep.grab hb,t.n1,t.n2,t.n3,?_,?_,?_,t.cE,t.cS,t.small,t.pos⟩
 ·obtain ⟨e,he⟩:=t.head
  exact ⟨e,by rw [Heap.put_other _ _ (hob _ _ he)];exact he⟩
 ·obtain ⟨ws,⟨e1,ex,h1⟩,hl,hw⟩:=t.elems
  refine ⟨ws,⟨e1,ex,by rw [Heap.put_other _ _ (hob _ _ h1)];exact h1⟩,hl,fun i j hi hj=>?_⟩
  obtain ⟨w,e,hz⟩:=hw i j hi hj
  exact ⟨w,e,ZI.without hb hc hz⟩
 ·obtain ⟨ss,⟨e1,ex,h1⟩,hl,hw⟩:=t.scales
  refine ⟨ss,⟨e1,ex,by rw [Heap.put_other _ _ (hob _ _ h1)];exact h1⟩,hl,fun i hi=>?_⟩
  obtain ⟨w,e,hz⟩:=hw i hi
  exact ⟨w,e,RQ.without hb hc hz⟩
structure MOk (r c:Int) (n:Nat) (ls:Nat->List UInt8) (rows cols:Nat):Prop where
 er:r=rows
 ec:c=cols
 r1:1<=rows
 r2:rows<=64
 c1:1<=cols
 c2:cols<=64
 len:n=rows*cols
 num:∀ i,i<n->IsNum (ls i)
def Shape(r c:Int)(n:Nat):Prop:=1<=r/\r<=64/\1<=c/\c<=64/\(n:Int)=r*c
theorem MOk.of{r c:Int}{n:Nat}{ls:Nat->List UInt8}(s:Shape r c n)(h:∀ i,i<n->IsNum (ls i)):MOk r c n ls r.toNat c.toNat:=by
 obtain ⟨h1,h2,h3,h4,h5⟩:=s
 refine ⟨by omega,by omega,by omega,by omega,by omega,by omega,?_,h⟩
 have e1:(r.toNat:Int)=r:=by omega
 have e2:(c.toNat:Int)=c:=by omega
 have:((r.toNat*c.toNat:Nat):Int)=r*c:=by rw [Int.natCast_mul,e1,e2]
 omega
theorem MOk.shape{r c:Int}{n:Nat}{ls:Nat->List UInt8}{rows cols:Nat}(m:MOk r c n ls rows cols):Shape r c n:=by
 obtain ⟨rfl,rfl,h1,h2,h3,h4,h5,_⟩:=m
 exact ⟨by omega,by omega,by omega,by omega,by rw [h5,Int.natCast_mul]⟩
abbrev matV(r c:Int)(A:Option Addr)(n cap:Nat):Value:=.agg #[I r,I c,.slice A n cap]
def Mx(r c:Int)(n:Nat)(ls:Nat->List UInt8):Prop:=∃ rows cols,MOk r c n ls rows cols
theorem Mx.iff{r c:Int}{n:Nat}{ls:Nat->List UInt8}:Mx r c n ls↔Shape r c n/\∀ i,i<n->IsNum (ls i):=by
 constructor
 ·rintro ⟨rows,cols,m⟩;exact ⟨m.shape,m.num⟩
 ·rintro ⟨s,h⟩;exact ⟨_,_,MOk.of s h⟩
section
variable {h:Heap} {K:Value->Heap->Prop} {A:Option Addr} {n cap m:Nat} {r c:Int} {ls:Nat->List UInt8}
theorem hasShape_spec(hn:n<=1000000000)(hK1:Shape r c n->K (.bool true) h)(hK0:¬ Shape r c n->K (.bool false) h):FCall Tryz.prog f_MHasShape #[matV r c A n cap] h K:=by
 refine MHasShape_ok _ _ _ _ _ ?_
 unfold MHasShape
 refine Br.dec (fun h1=>Br.dec (fun h2=>Br.dec (fun h3=>Br.dec (fun h4=>?_) (fun e=>hK0 fun s=>e s.2.2.2.1)) (fun e=>hK0 fun s=>e s.2.2.1)) (fun e=>hK0 fun s=>e s.2.1)) (fun e=>hK0 fun s=>e s.1)
 have hrc:r*c<=64*64:=Int.mul_le_mul h2 h4 (by omega) (by omega)
 have hrc0:0<=r*c:=Int.mul_nonneg (by omega) (by omega)
 have ew:wi64 (r*c)=r*c:=wi64_id (by omega) (by omega)
 rw [ew]
 by_cases e:(n:Int)=r*c
 ·rw [show ((n:Int)==r*c)=true by simpa using e]
  exact hK1 ⟨h1,h2,h3,h4,e⟩
 ·rw [show ((n:Int)==r*c)=false by simpa using e]
  exact hK0 fun s=>e s.2.2.2.2
theorem mread_spec(gl:Gl h)(rv':RowV SSr h A n ls)(hn:n<=1000000)(hl:∀ i,i<n->(ls i).length<=100000000)
 (hK1:∀ rows cols,MOk r c n ls rows cols->∀ b h',Own RQr h h' b n (fun i=>rv (ls i))->K (.tuple #[.slice (some ⟨b,0,none⟩) n n,.bool true]) h')
 (hK0:¬ Mx r c n ls->∀ h',h.le h'->K (.tuple #[.slice none 0 0,.bool false]) h'):FCall Tryz.prog f_MRead #[matV r c A n cap] h K:=by
 refine MRead_ok _ _ _ _ _ ?_
 unfold MRead
 refine hasShape_spec (by omega) (fun s=>⟨_,rfl,?_⟩) (fun s=>⟨_,rfl,hK0 (fun x=>s (Mx.iff.1 x).1) h (Heap.le_refl _)⟩)
 refine readAll_spec gl rv' hn hl (fun hnum b h' w=>⟨_,_,_,_,rfl,hK1 _ _ (MOk.of s hnum) b h' w⟩) (fun hno h' l=>⟨_,_,_,_,rfl,hK0 (fun x=>hno (Mx.iff.1 x).2) h' l⟩)
theorem mvalid_spec(gl:Gl h)(rv':RowV SSr h A n ls)(hn:n<=1000000)(hl:∀ i,i<n->(ls i).length<=100000000)
 (hK1:Mx r c n ls->K (.bool true) h) (hK0:¬ Mx r c n ls->K (.bool false) h):FCall Tryz.prog f_MValid #[matV r c A n cap] h K:=by
 refine MValid_ok _ _ _ _ _ ?_
 unfold MValid
 refine hasShape_spec (by omega) (fun s=>⟨_,rfl,?_⟩) (fun s=>⟨_,rfl,hK0 (fun x=>s (Mx.iff.1 x).1)⟩)
 refine ⟨fun L hp=>∃ k:Nat,k<=n/\L=[I k]/\hp=h/\∀ i,i<k->IsNum (ls i),fun L _=>n-(iAt L 0).toNat,⟨0,by omega,rfl,rfl,fun i hi=>by omega⟩,?_⟩
 rintro t hp ⟨k,hk,eL,rfl,hnum⟩
 obtain rfl:t=(k:Int):=by simpa using eL
 refine Br.dec (fun hlt=>?_) (fun hge=>?_)
 ·have hkn:k<n:=by omega
  obtain ⟨a,rfl,hc⟩:=rv'.sat hkn
  refine ⟨a,rfl,by omega,by omega,_,hc,valid_spec gl (hl k hkn) (fun hx=>⟨_,rfl,?_⟩) (fun hx=>⟨_,rfl,hK0 (fun y=>hx ((Mx.iff.1 y).2 k hkn))⟩)⟩
  rw [show wi64 ((k:Int)+1)=((k+1:Nat):Int) by rw [wi64_id]<;>omega]
  refine ⟨⟨k+1,by omega,rfl,rfl,fun i hi=>?_⟩,by simp only [iAt0];omega⟩
  by_cases e:i=k
  ·subst e;exact hx
  ·exact hnum i (by omega)
 ·have:k=n:=by omega
  subst this
  exact hK1 (Mx.iff.2 ⟨s,hnum⟩)
theorem mwrite_spec{f:Nat->Rat}(gl:Gl h)(rq:RowV RQr h A n f)(hn:n<=1000000)(hs:∀ i,i<n->Sz m (f i))(hm:m<=40000000)
 (hK:∀ b h',Own SSr h h' b n (fun i=>txtQ (f i))->K (matV r c (some ⟨b,0,none⟩) n n) h'):FCall Tryz.prog f_MWrite #[I r,I c,.slice A n cap] h K:=by
 refine MWrite_ok _ _ _ _ _ ?_
 unfold MWrite
 exact strings_spec gl rq hn hs hm fun b h' w=>⟨_,_,_,rfl,hK b h' w⟩
end
end Go.Proofs.YthilnfgnpdeofaaGreatDoor
/-
 What an elimination tells of linear equations.
-/
namespace Go.Proofs.YthilnfgnpdeofaaGreatDoor
def ZrE(n c:Nat)(s:ES):Prop:=∀ i j,i<n->s.cs.length<=i->j<c->s.R i j=0
structure EqA (n w c:Nat) (A:Nat->Nat->Rat) (s:ES):Prop where
 len:s.cs.length<=n
 zero:ZrE n c s
 lt:∀ x∈s.cs,x<c
 elim:∃ B,Elim n w B s.R (fun m=>s.cs.getD m 0) s.cs.length/\(∀ i,i<n->∃ i',i'<n/\∀ j,B i' j=A i j)/\(∀ i,i<n->∃ i',i'<n/\∀ j,B i j=A i' j)
 comb:∃ T:Nat->Nat->Rat,∀ i j,i<n->j<w->s.R i j=sm n fun l=>T i l*A l j
end Go.Proofs.YthilnfgnpdeofaaGreatDoor
/-
 The program's Reduce and Rank.
-/
namespace Go.Proofs.YthilnfgnpdeofaaGreatDoor
open Go
set_option maxRecDepth 20000
def mtx(E:Nat->Rat)(cols:Nat):Nat->Nat->Rat:=fun i j=>E (i*cols+j)
def elE(E:Nat->Rat)(rows cols c:Nat):ES:=runE rows ⟨mtx E cols,[],1⟩ c
def elP(E:Nat->Rat)(rows cols c:Nat):PS:=runP rows ⟨tabM E cols,tabS E cols,[],1,1⟩ c
theorem el_rel(E:Nat->Rat){rows cols c:Nat}(hc:c<=cols):ERel rows cols c (mtx E cols) (elE E rows cols c) (elP E rows cols c):=
 (ERel.start (fun i j _ hj=>tabM_eq E cols i hj) (fun i _=>by have:=tabS_pos E cols i;grind)).run c hc
theorem el_cs(E:Nat->Rat){rows cols c:Nat}(hc:c<=cols):(elP E rows cols c).cs=(elE E rows cols c).cs:=(el_rel E hc).cs.symm
theorem el_div(E:Nat->Rat){rows cols c:Nat}(hc:c<=cols){i j:Nat}(hi:i<rows)(hj:j<cols)(h:i<(elE E rows cols c).cs.length\/j<c):Rat.divInt ((elP E rows cols c).M i j) (elP E rows cols c).last=(elE E rows cols c).R i j:=by
 have r:=el_rel E hc (rows:=rows)
 have hv:=r.val i j hi hj
 have hl:=ratCast_ne r.last
 rw [Rat.divInt_eq_div,hv]
 by_cases h1:i<(elE E rows cols c).cs.length
 ·rw [if_pos h1,Rat.mul_comm,Rat.div_def,Rat.mul_assoc,Rat.mul_inv_cancel _ hl,Rat.mul_one]
 ·rw [if_neg h1,r.zero i j hi (by omega) (by omega),Rat.mul_zero,Rat.mul_zero]
  rw [Rat.div_def,Rat.zero_mul]
def bnd(cols m:Nat):Nat:=1+cols*m+m
theorem el_zb{E:Nat->Rat}{rows cols m:Nat}(h:∀ i,i<rows*cols->Sz m (E i)):ZbP rows cols (bnd cols m) (bnd cols m) ⟨tabM E cols,tabS E cols,[],1,1⟩:=by
 have hb:∀ i,i<rows->∀ j,j<cols->Sz m (E (i*cols+j)):=fun i hi j hj=>h _ (idx_lt hi hj)
 refine ⟨fun a b ha hb'=>?_,?_,fun a ha=>tabS_sz (hb a ha),Nat.zero_le _⟩
 ·show ZB (3^0*bnd cols m) (tabM E cols a b)
  rw [Nat.pow_zero,Nat.one_mul];exact tabM_zb (hb a ha) hb'
 ·show ZB (3^0*bnd cols m) 1
  exact ZB.one (by unfold bnd;omega)
theorem el_zbR{E:Nat->Rat}{rows cols m c:Nat}(h:∀ i,i<rows*cols->Sz m (E i))(hc:c<=cols):ZbP rows cols (bnd cols m) (bnd cols m) (elP E rows cols c):=(el_zb h).run (by unfold bnd;omega) c hc
theorem el_len(E:Nat->Rat)(rows cols c:Nat):(elP E rows cols c).cs.length<=c:=runP_len _ _ rfl c
theorem el_bound(E:Nat->Rat)(rows cols c:Nat)(x:Nat):3^(elP E rows cols c).cs.length*x<=3^c*x:=Nat.mul_le_mul_right _ (Nat.pow_le_pow_right (by decide) (el_len E rows cols c))
theorem el_last(E:Nat->Rat)(rows cols c:Nat):(elP E rows cols c).last≠0:=(runP_last rows _ (show (1:Int)≠0 by decide) (.inl rfl) (Nat.zero_le _) c).1
structure Own2 (h h':Heap) (b n:Nat) (f:Nat->List UInt8) (A:Option Addr) (cap:Nat) (l:List Int):Prop where
 ex:∃ g o xs,h.le g/\Sep h' g o/\RowX o b xs/\xs.length=n/\Row SSr g xs n f/\OwnSl o ty_tInts_e A cap l/\A≠some ⟨b,0,none⟩
theorem Own2.le{h h':Heap}{b n:Nat}{f:Nat->List UInt8}{A:Option Addr}{cap:Nat}{l:List Int}(w:Own2 h h' b n f A cap l):h.le h':=by
 obtain ⟨g,o,xs,lg,s,_⟩:=w.ex
 exact Heap.le_trans lg s.le
theorem Own2.strs{h h':Heap}{b n:Nat}{f:Nat->List UInt8}{A:Option Addr}{cap:Nat}{l:List Int}(w:Own2 h h' b n f A cap l):RowV SSr h' (some ⟨b,0,none⟩) n f:=by
 obtain ⟨g,o,xs,lg,s,r,e,q,_⟩:=w.ex
 exact ⟨xs,r.rowB.slF s.ole,e,q.mono monSS s.le⟩
theorem Own2.ints{h h':Heap}{b n:Nat}{f:Nat->List UInt8}{A:Option Addr}{cap:Nat}{l:List Int}(w:Own2 h h' b n f A cap l):SlF h' A l/\l.length<=cap:=by
 obtain ⟨g,o,xs,lg,s,r,e,q,ow,_⟩:=w.ex
 exact ⟨ow.slF s.ole,ow.1⟩
theorem Own2.own{h h':Heap}{b n:Nat}{f:Nat->List UInt8}{A:Option Addr}{cap:Nat}{l:List Int}(w:Own2 h h' b n f A cap l):Own SSr h h' b n f:=by
 obtain ⟨g,o,xs,lg,s,r,e,q,_⟩:=w.ex
 exact ⟨g,o,xs,lg,s,r,e,q⟩
section
variable {h g o:Heap} {T:Tb} {M:Nat->Nat->Int} {S:Nat->Rat}
theorem Tab.fat(t:Tab h g o T M S){k:Nat}(hk:k<T.rows*T.cols):∃ w:IV,ZIr g w (M (k/T.cols) (k%T.cols))/\o.cell? (Addr.add (Addr.add ⟨T.bE,0,none⟩ (k*2)) 0)=some (.bool w.s)/\o.cell? (Addr.add (Addr.add ⟨T.bE,0,none⟩ (k*2)) 1)=some (.slice w.A w.n w.c):=by
 have hp:=t.pos
 have hi:k/T.cols<T.rows:=Nat.div_lt_of_lt_mul (by rw [Nat.mul_comm];exact hk)
 obtain ⟨w,hz,c0,c1⟩:=t.ato hi (Nat.mod_lt k hp)
 have e:k/T.cols*T.cols*2+k%T.cols*2=k*2:=by rw [<- Nat.add_mul,Nat.mul_comm (k/T.cols),Nat.div_add_mod]
 rw [add_at,add_at,e] at c0 c1
 refine ⟨w,hz,?_,?_⟩
 ·rw [add_at,add_at,Nat.zero_add];exact c0
 ·rw [add_at,add_at,Nat.zero_add];exact c1
end
section
variable {h:Heap} {K:Value->Heap->Prop} {A:Option Addr} {n cap m:Nat} {r c:Int} {ls:Nat->List UInt8}
abbrev rvs(ls:Nat->List UInt8):Nat->Rat:=fun i=>rv (ls i)
theorem tabRed_spec{E:Nat->Rat}{rows cols cc:Nat}(gl:Gl h)(rq:RowV RQr h A (rows*cols) E)(hcap:rows*cols<=cap)(hr:1<=rows)(hr2:rows<=10000)(hc:1<=cols)(hc2:cols<=10000)(hcc:cc<=cols)(hs:∀ i,i<rows*cols->Sz m (E i))(hm:2*(3^cc*bnd cols m)+1<=100000000){K:Value->Heap->Prop}
 (hK:∀ T h1,FCall Tryz.prog f_BReduce #[.pointer (some ⟨T.bt,0,none⟩),I (cc:Int)] h1 (fun r h'=>∃ g' o' A' cap' w,h.le g'/\Tab h' g' o' T (elP E rows cols cc).M (elP E rows cols cc).S/\OwnSl o' ty_tInts_e A' cap' (zs (elP E rows cols cc).cs)/\Apart T A'/\ZIr g' w (elP E rows cols cc).last/\
  r= .tuple #[.slice A' (elP E rows cols cc).cs.length cap',w.v,I (elP E rows cols cc).sgn])->h.le h1->T.rows=rows->T.cols=cols->K (.pointer (some ⟨T.bt,0,none⟩)) h1):FCall Tryz.prog f_MNewTable #[.slice A (rows*cols) cap,I (cols:Int)] h K:=by
 have h1:bnd cols m<=3^cc*bnd cols m:=Nat.le_mul_of_pos_left _ (Nat.pow_pos (by decide))
 have h2:bnd cols m=1+cols*m+m:=rfl
 refine newTable_spec (m:=m) gl rq hcap hr hr2 hc hc2 hs (by omega) ?_
 intro h' g' o' T lg t e1 e2
 refine hK T h' ?_ (Heap.le_trans lg t.sep.le) e1 e2
 have hz:=el_zb hs
 rw [<- e1,<- e2] at hz
 refine reduce_spec (m:=bnd cols m) (l:=bnd cols m) t (by omega) (by unfold bnd;omega) hm (by rw [e1] at hz ⊢;rw [e2] at hz ⊢;exact hz) ?_
 intro h2 g2 o2 A2 cap2 w l2 t2 ow ap ko iw
 rw [e1] at t2 ow iw ⊢
 exact ⟨g2,o2,A2,cap2,w,Heap.le_trans lg l2,t2,ow,ap,iw,rfl⟩
end
end Go.Proofs.YthilnfgnpdeofaaGreatDoor
/-
 The program's Reduce.
-/
namespace Go.Proofs.YthilnfgnpdeofaaGreatDoor
open Go
set_option maxRecDepth 20000
def redF(E:Nat->Rat)(rows cols:Nat):Nat->Rat:=fun k=>(elE E rows cols cols).R (k/cols) (k%cols)
theorem Own2.of{h g o g5 h7:Heap}{b n:Nat}{f:Nat->List UInt8}{A:Option Addr}{cap:Nat}{l:List Int}(s:Sep h7 g5 o)(lh:h.le g)(ow:OwnSl o ty_tInts_e A cap l)(w:Own SSr g g5 b n f):Own2 h h7 b n f A cap l:=by
 obtain ⟨gs,os,xs,lg,ss,rx,hx,rr⟩:=w.ex
 have j1:∀ k x,os k=some x->(o.join os) k=some x:=fun k x e=>by show (match os k with|some x=>some x|none=>o k)=_;rw [e]
 have j2:∀ k,os k=none->(o.join os) k=o k:=fun k e=>by show (match os k with|some x=>some x|none=>o k)=_;rw [e]
 have hk:∀ k x,o k=some x->os k=none:=by
  intro k x e
  cases ho:os k with
  | none=>rfl
  | some y=>have:=s.dis k x e;rw [ss.own k y ho] at this;cases this
 refine ⟨gs,o.join os,xs,Heap.le_trans lh lg,s.join ss,rx.keep (fun x e=>j1 b x e),hx,rr,ow.keep fun k x _ e=>by rw [j2 k (hk k x e)];exact e,fun hA=>?_⟩
 obtain ⟨e,hb⟩:=rx
 rcases ow.2 with ⟨_,h0⟩|⟨b',arr,hA',hb',_⟩
 ·rw [hA] at h0;cases h0
 ·rw [hA] at hA'
  simp only [Option.some.injEq,Addr.mk.injEq,and_true] at hA'
  subst hA'
  rw [hk _ _ hb'] at hb;cases hb
def onlyAt(o:Heap)(A:Option Addr):Heap:=fun k=>if A=some ⟨k,0,none⟩ then o k else none
theorem onlyAt_le(o:Heap)(A:Option Addr):(onlyAt o A).le o:=fun k x e=>by
 unfold onlyAt at e
 split at e
 ·exact e
 ·cases e
theorem OwnSl.only{α:Type}[E:Enc α]{o:Heap}{e:TypeId}{A:Option Addr}{c:Nat}{xs:List α}(w:OwnSl o e A c xs):OwnSl (onlyAt o A) e A c xs:=w.keep fun b x hA hb=>by unfold onlyAt;rw [if_pos hA];exact hb
theorem onlyAt_none(o:Heap){A:Option Addr}{k:Nat}(h:A≠some ⟨k,0,none⟩):onlyAt o A k=none:=by unfold onlyAt;rw [if_neg h]
section
variable {h:Heap} {K:Value->Heap->Prop} {A:Option Addr} {n cap m:Nat} {r c:Int} {ls:Nat->List UInt8}
theorem mreduce_spec(gl:Gl h)(rv':RowV SSr h A n ls)(hn:n<=1000000)(hl:∀ i,i<n->(ls i).length<=100000000)(hs:∀ i,i<n->Sz m (rv (ls i)))(hb:∀ rows cols,MOk r c n ls rows cols->2*(3^cols*bnd cols m)+1<=40000000)
 (hK1:∀ rows cols,MOk r c n ls rows cols->∀ b h' A' cap',Own2 h h' b n (fun k=>txtQ (redF (rvs ls) rows cols k)) A' cap' (zs (elE (rvs ls) rows cols cols).cs)->K (.tuple #[matV r c (some ⟨b,0,none⟩) n n,.slice A' (elE (rvs ls) rows cols cols).cs.length cap',I 0]) h')
 (hK0:¬ Mx r c n ls->∀ h',h.le h'->K (.tuple #[matV 0 0 none 0 0,.slice none 0 0,I 1]) h'):FCall Tryz.prog f_MReduce #[matV r c A n cap] h K:=by
 refine MReduce_ok _ _ _ _ _ ?_
 unfold MReduce
 refine mread_spec gl rv' hn hl ?_ ?_
 ·intro rows cols mk b h1 own
  have hb':=hb rows cols mk
  have:=mk.r1;have:=mk.r2;have:=mk.c1;have:=mk.c2
  obtain ⟨rfl,rfl,h1',h2',h3',h4',rfl,hnum⟩:=id mk
  have ol:=own.le
  have ov:=own.vis monRQ
  obtain ⟨g1,o1,xs,lg1,s1,rx,hx,rr⟩:=own.ex
  obtain ⟨e1,hb1⟩:=id rx
  refine ⟨_,_,_,_,rfl,?_⟩
  refine tabRed_spec (E:=rvs ls) (cc:=cols) (m:=m) (gl.mono ol) ov (Nat.le_refl _) (by omega) (by omega) (by omega) (by omega) (Nat.le_refl _) hs (by omega) ?_
  intro T h2 hred l2 e1' e2'
  refine ⟨_,rfl,?_⟩
  refine FCall.mono hred ?_
  rintro r3 h3 ⟨g3,o3,A3,cap3,w,l3,t3,ow,ap,iw,rfl⟩
  refine ⟨_,_,_,_,_,_,_,_,rfl,_,rfl,_,_,_,t3.c1,?_⟩
  have hzb:=el_zbR (E:=rvs ls) (rows:=rows) (c:=cols) hs (Nat.le_refl _)
  have hbd:=el_bound (rvs ls) rows cols cols (bnd cols m)
  have hlast:=el_last (rvs ls) rows cols cols
  have hdiv:∀ k,k<rows*cols->Rat.divInt ((elP (rvs ls) rows cols cols).M (k/cols) (k%cols)) (elP (rvs ls) rows cols cols).last=redF (rvs ls) rows cols k:=by
   intro k hk
   have hi:k/cols<rows:=Nat.div_lt_of_lt_mul (by rw [Nat.mul_comm];exact hk)
   have hj:=Nat.mod_lt k (show 0<cols by omega)
   exact el_div (rvs ls) (Nat.le_refl _) hi hj (.inr hj)
  rw [el_cs _ (Nat.le_refl _)] at ow ⊢
  generalize elP (rvs ls) rows cols cols=st at *
  have hgb:g3 b=some (.cells (xs.flatMap enc).toArray e1):=l3 _ _ (s1.own _ _ hb1)
  have hA3:A3≠some ⟨b,0,none⟩:=by
   intro hA
   rcases ow.2 with ⟨_,h0⟩|⟨b',arr,hA',hb',_⟩
   ·rw [hA] at h0;cases h0
   ·rw [hA] at hA'
    simp only [Option.some.injEq,Addr.mk.injEq,and_true] at hA'
    subst hA'
    rw [t3.sep.dis _ _ hb'] at hgb;cases hgb
  have hob:∀ k x,o3 k=some x->k≠b:=by rintro k x e rfl;rw [t3.sep.dis k x e] at hgb;cases hgb
  have t4:=t3.grab hgb (notU_flat xs)
  have iw4:ZI (g3.without b) w.s w.A w.n w.c st.last:=ZI.without hgb (notU_flat xs) iw
  have lg4:g1.le (g3.without b):=Heap.le_without (Heap.le_trans s1.le l3) (s1.dis _ _ hb1)
  have ow4:OwnSl (o3.put b (.cells (xs.flatMap enc).toArray e1)) ty_tInts_e A3 cap3 (zs (elE (rvs ls) rows cols cols).cs):=ow.keep fun k x _ e=>by rw [Heap.put_other _ _ (hob k x e)];exact e
  have rx4:RowX (o3.put b (.cells (xs.flatMap enc).toArray e1)) b xs:=RowX.mk
  generalize g3.without b=g4 at *
  generalize o3.put b (.cells (xs.flatMap enc).toArray e1)=o4 at *
  have tb:=t4.own
  have nb:b≠T.bt/\b≠T.bE/\b≠T.bS:=by
   obtain ⟨⟨x1,y1⟩,⟨x2,y2⟩,⟨x3,y3⟩⟩:=t3.own
   exact ⟨fun e=>hob _ _ y1 e.symm,fun e=>hob _ _ y2 e.symm,fun e=>hob _ _ y3 e.symm⟩
  refine ⟨fun L hp=>∃ (k:Nat) (g o:Heap) (ys:List QV),k<=rows*cols/\L=[I (k:Int)]/\g4.le g/\Tab hp g o T st.M st.S/\RowX o b ys/\ys.length=rows*cols/\Row RQr g ys k (redF (rvs ls) rows cols)/\(∀ kk,kk≠b->o kk=o4 kk),fun L _=>rows*cols-(iAt L 0).toNat,⟨0,g4,o4,xs,by omega,rfl,Heap.le_refl _,t4,rx4,hx,Row.nil,fun _ _=>rfl⟩,?_⟩
  rintro z hp ⟨k,g5,o5,ys,hk,eL,l5,t5,rx5,hy,rr5,ho5⟩
  obtain rfl:z=(k:Int):=by simpa using eL
  refine Br.dec (fun hlt=>?_) (fun hge=>?_)
  ·have hkn:k<rows*cols:=by rw [e1',e2'] at hlt;omega
   obtain ⟨w5,z5,c0,c1⟩:=t5.fat (k:=k) (by rw [e1',e2'];exact hkn)
   rw [e2'] at z5
   have hi:k/cols<rows:=Nat.div_lt_of_lt_mul (by rw [Nat.mul_comm];exact hkn)
   have hj:=Nat.mod_lt k (show 0<cols by omega)
   refine ⟨_,rfl,by omega,hlt,_,_,_,_,t5.sep.cell c0,t5.sep.cell c1,?_⟩
   refine t5.sep.call (fraction_spec (gl.mono (Heap.le_trans lg1 (Heap.le_trans lg4 l5))).tz z5 (iw4.mono l5) (hzb.M _ _ hi hj) hzb.last (by omega) ?_)
   intro w6 g6 l6 i6 h6 s6
   rw [hdiv k hkn] at i6
   refine ⟨_,_,_,_,_,_,_,_,rfl,_,rfl,by omega,by omega,?_⟩
   refine Sep.storeX tRqs_one (y:=w6) rfl s6 rx5 (i:=k) (by omega) ?_
   intro h7 o7 x7 eo s7 rx7
   have ko:∀ kk,kk≠b->o7 kk=o5 kk:=fun kk hk=>by rw [eo,Heap.put_other _ _ hk]
   have hrc:rows*cols<=64*64:=Nat.mul_le_mul (by omega) (by omega)
   rw [show wi64 ((k:Int)+1)=((k+1:Nat):Int) by rw [wi64_id]<;>omega]
   refine ⟨⟨k+1,g6,o7,_,by omega,rfl,Heap.le_trans l5 l6,t5.keep s7 l6 (fun kk x e hkk=>by
    rw [ko kk (by rcases hkk with rfl|rfl|rfl
                  ·exact nb.1.symm
                  ·exact nb.2.1.symm
                  ·exact nb.2.2.symm)];exact e),rx7,by simpa using hy,(rr5.mono monRQ l6).set (by omega) i6,fun kk hk=>by rw [ko kk hk,ho5 kk hk]⟩,by simp only [iAt0];omega⟩
  ·have hkn:k=rows*cols:=by rw [e1',e2'] at hge;omega
   subst hkn
   have ow5:OwnSl o5 ty_tInts_e A3 cap3 (zs (elE (rvs ls) rows cols cols).cs):=ow4.keep fun kk x hA e=>by rw [ho5 kk (fun e=>hA3 (by rw [<- e];exact hA))];exact e
   obtain ⟨g6,l6,s6⟩:=t5.sep.give (onlyAt_le o5 A3)
   obtain ⟨e5,hb5⟩:=id rx5
   have hg6:g6 b=some (.cells (ys.flatMap enc).toArray e5):=by
    rw [<- s6.rest b (onlyAt_none o5 hA3)]
    exact t5.sep.own _ _ hb5
   have rq6:RowV RQr g6 (some ⟨b,0,none⟩) (rows*cols) (redF (rvs ls) rows cols):=⟨ys,(RowX.rowB ⟨e5,hg6⟩).slF (Heap.le_refl _),hy,rr5.mono monRQ l6⟩
   have lh6:h.le g6:=Heap.le_trans lg1 (Heap.le_trans lg4 (Heap.le_trans l5 l6))
   have hsz:∀ k,k<rows*cols->Sz (3^st.cs.length*bnd cols m) (redF (rvs ls) rows cols k):=by
    intro k hk
    have hi:k/cols<rows:=Nat.div_lt_of_lt_mul (by rw [Nat.mul_comm];exact hk)
    have hj:=Nat.mod_lt k (show 0<cols by omega)
    rw [<- hdiv k hk]
    exact Sz.divInt hlast (hzb.M _ _ hi hj) hzb.last
   refine s6.call (mwrite_spec (gl.mono lh6) rq6 hn hsz (by omega) ?_)
   intro b2 g7 own7 h7 s7
   exact ⟨_,_,_,_,_,rfl,hK1 rows cols mk b2 h7 A3 cap3 (Own2.of s7 lh6 ow5.only own7)⟩
 ·intro hno h1 l1
  exact ⟨_,_,_,_,rfl,hK0 hno h1 l1⟩
end
end Go.Proofs.YthilnfgnpdeofaaGreatDoor
/-
 The program's Det.
-/
namespace Go.Proofs.YthilnfgnpdeofaaGreatDoor
open Go
set_option maxRecDepth 20000
def detQ(E:Nat->Rat)(n:Nat):Rat:=if (elE E n n n).cs.length<n then 0 else (elE E n n n).det
theorem whole_spec{h:Heap}{K:Value->Heap->Prop}{s:Bool}{A:Option Addr}{n c:Nat}{z:Int}(i:ZI h s A n c z)(hK:∀ w,RQ h w (z:Rat)->K w.v h):FCall Tryz.prog f_TWhole #[.agg #[.bool s,.slice A n c]] h K:=by
 refine TWhole_ok _ _ _ _ ?_
 unfold TWhole
 exact hK _ (rq_whole i)
theorem txtQ_zero:txtQ 0=[48]:=by simp [txtQ,txtI,digs]
theorem detQ_eq(E:Nat->Rat){n:Nat}(h:(elE E n n n).cs.length=n):((elP E n n n).sgn:Rat)*(elP E n n n).last/pr n (elP E n n n).S=detQ E n:=by
 have r:=el_rel E (rows:=n) (Nat.le_refl n)
 have hd:=r.det h
 have hne:=pr_ne r.scale
 rw [h] at hd
 unfold detQ
 rw [if_neg (by omega),<- hd,Rat.div_def,Rat.mul_assoc,Rat.mul_inv_cancel _ hne,Rat.mul_one]
section
variable {h:Heap} {K:Value->Heap->Prop} {A:Option Addr} {n cap m:Nat} {r c:Int} {ls:Nat->List UInt8}
theorem mdet_spec(gl:Gl h)(rv':RowV SSr h A n ls)(hn:n<=1000000)(hl:∀ i,i<n->(ls i).length<=100000000)(hs:∀ i,i<n->Sz m (rv (ls i)))(hb:∀ rows cols,MOk r c n ls rows cols->70*(3^cols*bnd cols m)+100<=40000000)
 (hK1:∀ q,MOk r c n ls q q->∀ h',h.le h'->K (.tuple #[.string (bs (txtQ (detQ (rvs ls) q))),I 0]) h')
 (hK2:Mx r c n ls->r≠c->∀ h',h.le h'->K (.tuple #[.string (bs []),I 4]) h')
 (hK0:¬ Mx r c n ls->∀ h',h.le h'->K (.tuple #[.string (bs []),I 1]) h'):FCall Tryz.prog f_MDet #[matV r c A n cap] h K:=by
 refine MDet_ok _ _ _ _ _ ?_
 unfold MDet
 refine mread_spec gl rv' hn hl ?_ ?_
 ·intro rows cols mk b h1 own
  have hb':=hb rows cols mk
  have:=mk.r1;have:=mk.r2;have:=mk.c1;have:=mk.c2
  obtain ⟨rfl,rfl,h1',h2',h3',h4',rfl,hnum⟩:=id mk
  refine ⟨_,_,_,_,rfl,Br.bne (fun hne=>hK2 ⟨_,_,mk⟩ hne h1 own.le) (fun heq=>?_)⟩
  obtain rfl:rows=cols:=by omega
  refine tabRed_spec (E:=rvs ls) (cc:=rows) (m:=m) (gl.mono own.le) (own.vis monRQ) (Nat.le_refl _) (by omega) (by omega) (by omega) (by omega) (Nat.le_refl _) hs (by omega) ?_
  intro T h2 hred l2 e1 e2
  refine ⟨_,rfl,?_⟩
  refine FCall.mono hred ?_
  rintro r3 h3 ⟨g3,o3,A3,cap3,w,l3,t3,ow,ap,iw,rfl⟩
  have hzb:=el_zbR (E:=rvs ls) (rows:=rows) (c:=rows) hs (Nat.le_refl _)
  have hbd:=el_bound (rvs ls) rows rows rows (bnd rows m)
  have hsg:=(runP_last rows ⟨tabM (rvs ls) rows,tabS (rvs ls) rows,[],1,1⟩ (show (1:Int)≠0 by decide) (.inl rfl) (Nat.zero_le _) rows).2.1
  have hsg':(elP (rvs ls) rows rows rows).sgn=1\/(elP (rvs ls) rows rows rows).sgn= -1:=hsg
  have hscale:∀ i,i<rows->(elP (rvs ls) rows rows rows).S i≠0:=(el_rel (rvs ls) (rows:=rows) (Nat.le_refl rows)).scale
  have lh3:=Heap.le_trans own.le (Heap.le_trans l3 t3.sep.le)
  have hdet:=detQ_eq (rvs ls) (n:=rows)
  have hdet0:(elE (rvs ls) rows rows rows).cs.length<rows->detQ (rvs ls) rows=0:=fun h=>by unfold detQ;rw [if_pos h]
  have hlen:=(el_rel (rvs ls) (rows:=rows) (Nat.le_refl rows)).asc
  refine ⟨_,_,_,_,_,_,_,_,rfl,?_⟩
  rw [el_cs _ (Nat.le_refl _)]
  refine Br.dec (fun hlt=>?_) (fun hge=>?_)
  ·have:=hK1 rows mk h3 lh3
   rw [hdet0 (by omega),txtQ_zero] at this
   exact this
  have hfull:(elE (rvs ls) rows rows rows).cs.length=rows:=by omega
  have hdet':=hdet hfull
  generalize elP (rvs ls) rows rows rows=st at *
  have iw3:ZI h3 w.s w.A w.n w.c st.last:=iw.mono t3.sep.le
  refine whole_spec iw3 (fun w4 i4=>?_)
  have hB:1<=3^st.cs.length*bnd rows m:=pow3_pos _ _ (by unfold bnd;omega)
  have sl:Sz (3^rows*bnd rows m) (st.last:Rat):=(Sz.int hzb.last hB).mono hbd
  refine ⟨_,_,_,_,_,_,_,_,rfl,fun L hp=>∃ w:QV,hp=h3/\L=[.bool w.s,.slice w.A w.n w.c,.bool w.s2,.slice w.A2 w.n2 w.c2]/\RQ h3 w ((st.sgn:Rat)*st.last),?_,?_⟩
  ·refine Br.dec (fun e=>?_) (fun e=>?_)
   ·have e1:st.sgn= -1:=by omega
    refine rneg'_spec i4 (fun w5 i5=>⟨_,_,_,_,_,_,_,_,rfl,w5,rfl,rfl,?_⟩)
    rw [e1]
    have:(((-1:Int)):Rat)*(st.last:Rat)= -(st.last:Rat):=by
     have:((-1:Int):Rat)= -1:=by decide +kernel
     rw [this];grind
    rw [this];exact i5
   ·have e1:st.sgn=1:=by omega
    refine ⟨w4,rfl,rfl,?_⟩
    rw [e1]
    have:((1:Int):Rat)*(st.last:Rat)=(st.last:Rat):=by
     have:((1:Int):Rat)=1:=rfl
     rw [this,Rat.one_mul]
    rw [this];exact i4
  ·rintro d0 d1A d1n d1c d2 d3A d3n d3c hp ⟨w5,rfl,eL,i5⟩
   simp only [List.cons.injEq,Value.bool.injEq,Value.slice.injEq,and_true] at eL
   obtain ⟨rfl,⟨rfl,rfl,rfl⟩,rfl,⟨rfl,rfl,rfl⟩⟩:=eL
   have s0:Sz (3^rows*bnd rows m) ((st.sgn:Rat)*st.last):=by
    rcases hsg' with e|e
    ·rw [e]
     have:((1:Int):Rat)*(st.last:Rat)=(st.last:Rat):=by
      have:((1:Int):Rat)=1:=rfl
      rw [this,Rat.one_mul]
     rw [this];exact sl
    ·rw [e]
     have:(((-1:Int)):Rat)*(st.last:Rat)= -(st.last:Rat):=by
      have:((-1:Int):Rat)= -1:=by decide +kernel
      rw [this];grind
     rw [this];exact sl.neg
   refine ⟨_,rfl,_,_,_,t3.c2,fun L hp'=>∃ (k:Nat) (w:QV),k<=rows/\hp.le hp'/\L=[I (k:Int),.bool w.s,.slice w.A w.n w.c,.bool w.s2,.slice w.A2 w.n2 w.c2]/\RQ hp' w ((st.sgn:Rat)*st.last/pr k st.S)/\Sz ((k+1)*(3^rows*bnd rows m)) ((st.sgn:Rat)*st.last/pr k st.S),fun L _=>rows-(iAt L 0).toNat,⟨0,w5,by omega,Heap.le_refl _,rfl,?_,?_⟩,?_⟩
   ·have:(st.sgn:Rat)*st.last/pr 0 st.S=(st.sgn:Rat)*st.last:=by rw [pr,Rat.div_def];grind
    rw [this];exact i5
   ·have:(st.sgn:Rat)*st.last/pr 0 st.S=(st.sgn:Rat)*st.last:=by rw [pr,Rat.div_def];grind
    rw [this];exact s0.mono (by omega)
   rintro z e0 e1A e1n e1c e2' e3A e3n e3c h6 ⟨k,w6,hk,l6,eL,i6,s6⟩
   simp only [List.cons.injEq,Value.int.injEq,Value.bool.injEq,Value.slice.injEq,true_and,and_true] at eL
   obtain ⟨rfl,rfl,⟨rfl,rfl,rfl⟩,rfl,⟨rfl,rfl,rfl⟩⟩:=eL
   have lh6:=Heap.le_trans lh3 l6
   have hk64:(k+1)*(3^rows*bnd rows m)<=65*(3^rows*bnd rows m):=Nat.mul_le_mul_right _ (by omega)
   refine Br.dec (fun hlt=>?_) (fun hge=>?_)
   ·have hkr:k<rows:=by rw [e1] at hlt;omega
    obtain ⟨w7,i7,c0,c1,c2,c3⟩:=t3.sat (i:=k) (by rw [e1];exact hkr)
    refine ⟨_,rfl,by omega,hlt,_,_,_,_,_,_,_,_,Heap.cell?_le l6 c0,Heap.cell?_le l6 c1,Heap.cell?_le l6 c2,Heap.cell?_le l6 c3,?_⟩
    have sS:Sz (3^rows*bnd rows m) (st.S k):=(hzb.S k hkr).mono (Nat.le_mul_of_pos_left _ (Nat.pow_pos (by decide)))
    have i7':RQ h6 w7 (st.S k):=monRQ _ _ _ _ (Heap.le_trans t3.sep.le l6) i7
    have ek:(k+1+1)*(3^rows*bnd rows m)=(k+1)*(3^rows*bnd rows m)+3^rows*bnd rows m:=by rw [Nat.add_mul (k+1),Nat.one_mul]
    refine rdiv'_spec (gl.mono lh6).tz i6 i7' s6 (sS.mono (Nat.le_mul_of_pos_left _ (by omega))) (Nat.le_trans hB (Nat.le_trans hbd (Nat.le_mul_of_pos_left _ (by omega)))) (by omega) ?_
    intro w8 h8 l8 i8
    have hdv:(st.sgn:Rat)*st.last/pr k st.S/st.S k=(st.sgn:Rat)*st.last/pr (k+1) st.S:=by
     rw [pr,Rat.div_def,Rat.div_def,Rat.div_def,Rat.inv_mul_rev]
     grind
    refine ⟨_,_,_,_,_,_,_,_,rfl,?_⟩
    rw [show wi64 ((k:Int)+1)=((k+1:Nat):Int) by rw [wi64_id]<;>omega]
    refine ⟨⟨k+1,w8,by omega,Heap.le_trans l6 l8,rfl,by rw [<- hdv];exact i8,?_⟩,by simp only [iAt0];omega⟩
    rw [<- hdv,ek]
    exact s6.div sS (Nat.le_trans hB hbd)
   ·have hkr:k=rows:=by rw [e1] at hge;omega
    subst hkr
    rw [hdet'] at i6 s6
    exact rstring_spec (gl.mono lh6).p10 i6 s6 (by omega) ⟨_,rfl,hK1 k mk h6 lh6⟩
 ·intro hno h1 l1
  exact ⟨_,_,_,_,rfl,hK0 hno h1 l1⟩
end
end Go.Proofs.YthilnfgnpdeofaaGreatDoor
/-
 Lists of rows: read,and one's own;the reference's Rows and Copy.
-/
namespace Go.Proofs.YthilnfgnpdeofaaGreatDoor
open Go
set_option maxRecDepth 20000
structure HV where
 A:Option Addr
 n:Nat
 c:Nat
abbrev HV.v(s:HV):Value:=.slice s.A s.n s.c
instance:Enc HV:=⟨⟨fun s=>[.slice s.A s.n s.c],1,fun _=>rfl,fun s v hv=>by rw [List.mem_singleton.1 hv];rfl⟩⟩
def RowsV(h:Heap)(A:Option Addr)(n w:Nat)(M:Nat->Nat->Rat):Prop:=∃ hd:List HV,SlF h A hd/\hd.length=n/\∀ i,i<n->∃ s,hd[i]? = some s/\s.n=w/\w<=s.c/\RowV NQr h s.A w (M i)
theorem RowsV.mono{h h':Heap}{A:Option Addr}{n w:Nat}{M:Nat->Nat->Rat}(l:h.le h')(r:RowsV h A n w M):RowsV h' A n w M:=by
 obtain ⟨hd,s,e,r⟩:=r
 refine ⟨hd,s.mono l,e,fun i hi=>?_⟩
 obtain ⟨s,e1,e2,e3,r⟩:=r i hi
 exact ⟨s,e1,e2,e3,r.mono monNQ l⟩
theorem RowsV.congr{h:Heap}{A:Option Addr}{n w:Nat}{M M':Nat->Nat->Rat}(r:RowsV h A n w M)(e:∀ i j,i<n->j<w->M i j=M' i j):RowsV h A n w M':=by
 obtain ⟨hd,s,e1,r⟩:=r
 refine ⟨hd,s,e1,fun i hi=>?_⟩
 obtain ⟨s,e1,e2,e3,r⟩:=r i hi
 exact ⟨s,e1,e2,e3,r.congr fun j hj=>e i j hi hj⟩
theorem RowsV.at{h:Heap}{A:Option Addr}{n w:Nat}{M:Nat->Nat->Rat}(r:RowsV h A n w M){i:Nat}(hi:i<n):∃ (a:Addr) (s:HV),A=some a/\s.n=w/\w<=s.c/\h.cell? (Addr.add a (i*1))=some (.slice s.A s.n s.c)/\RowV NQr h s.A w (M i):=by
 obtain ⟨hd,s,e,r⟩:=r
 obtain ⟨u,e1,e2,e3,r⟩:=r i hi
 obtain ⟨a,ha,hc⟩:=SlF.at (by decide) s (i:=i) (by omega)
 have hu:hd[i]=u:=by
  rw [List.getElem?_eq_getElem (by omega)] at e1;exact Option.some.inj e1
 have:=hc 0 _ (by rw [hu];rfl)
 rw [add_zero'] at this
 exact ⟨a,u,ha,e2,e3,this,r⟩
structure Mt (h g o:Heap) (bo:Nat) (rb:Nat->Nat) (n w:Nat) (M:Nat->Nat->Rat):Prop where
 sep:Sep h g o
 hd:∃ hd:List HV,RowB o bo hd/\hd.length=n/\∀ i,i<n->∃ c,hd[i]? = some ⟨some ⟨rb i,0,none⟩,w,c⟩/\w<=c
 nb:∀ i,i<n->rb i≠bo
 inj:∀ i j,i<n->j<n->rb i=rb j->i=j
 row:∀ i,i<n->∃ xs:List QV,RowB o (rb i) xs/\xs.length=w/\Row NQr g xs w (M i)
section
variable {h g o:Heap} {bo n w:Nat} {rb:Nat->Nat} {M:Nat->Nat->Rat}
theorem Mt.next(t:Mt h g o bo rb n w M){h' g':Heap}(s:Sep h' g' o)(l:g.le g'):Mt h' g' o bo rb n w M:=by
 refine ⟨s,t.hd,t.nb,t.inj,fun i hi=>?_⟩
 obtain ⟨xs,r,e,q⟩:=t.row i hi
 exact ⟨xs,r,e,q.mono monNQ l⟩
theorem Mt.congr(t:Mt h g o bo rb n w M){M':Nat->Nat->Rat}(e:∀ i j,i<n->j<w->M i j=M' i j):Mt h g o bo rb n w M':=by
 refine ⟨t.sep,t.hd,t.nb,t.inj,fun i hi=>?_⟩
 obtain ⟨xs,r,e1,q⟩:=t.row i hi
 exact ⟨xs,r,e1,q.congr fun j hj=>e i j hi hj⟩
theorem Mt.keep(t:Mt h g o bo rb n w M){h' g' o':Heap}(s:Sep h' g' o')(l:g.le g')(hk:∀ k x,o k=some x->(k=bo\/∃ i,i<n/\k=rb i)->o' k=some x):Mt h' g' o' bo rb n w M:=by
 refine ⟨s,?_,t.nb,t.inj,fun i hi=>?_⟩
 ·obtain ⟨hd,⟨e,ex,hb⟩,h1,h2⟩:=t.hd
  exact ⟨hd,⟨e,ex,hk _ _ hb (.inl rfl)⟩,h1,h2⟩
 ·obtain ⟨xs,⟨e,ex,hb⟩,h1,h2⟩:=t.row i hi
  exact ⟨xs,⟨e,ex,hk _ _ hb (.inr ⟨i,hi,rfl⟩)⟩,h1,h2.mono monNQ l⟩
theorem Mt.own(t:Mt h g o bo rb n w M):(∃ x,o bo=some x)/\∀ i,i<n->∃ x,o (rb i)=some x:=by
 obtain ⟨hd,⟨e,ex,hb⟩,_⟩:=t.hd
 refine ⟨⟨_,hb⟩,fun i hi=>?_⟩
 obtain ⟨xs,⟨e,ex,hb⟩,_⟩:=t.row i hi
 exact ⟨_,hb⟩
theorem Mt.rowsV(t:Mt h g o bo rb n w M):RowsV h (some ⟨bo,0,none⟩) n w M:=by
 obtain ⟨hd,r,e,q⟩:=t.hd
 refine ⟨hd,r.slF t.sep.ole,e,fun i hi=>?_⟩
 obtain ⟨c,e1,hc⟩:=q i hi
 obtain ⟨xs,rx,e2,qx⟩:=t.row i hi
 exact ⟨_,e1,rfl,hc,xs,rx.slF t.sep.ole,e2,qx.mono monNQ t.sep.le⟩
theorem Mt.head(t:Mt h g o bo rb n w M){i:Nat}(hi:i<n):∃ c,w<=c/\o.cell? (Addr.add ⟨bo,0,none⟩ (i*1))=some (.slice (some ⟨rb i,0,none⟩) w c):=by
 obtain ⟨hd,r,e,q⟩:=t.hd
 obtain ⟨c,e1,hc⟩:=q i hi
 refine ⟨c,hc,?_⟩
 have hu:hd[i]=⟨some ⟨rb i,0,none⟩,w,c⟩:=by
  rw [List.getElem?_eq_getElem (by omega)] at e1;exact Option.some.inj e1
 rw [add_at,Nat.zero_add]
 exact r.cell (i:=i) (by omega) (j:=0) (by rw [hu];rfl)
theorem Mt.elem(t:Mt h g o bo rb n w M){i j:Nat}(hi:i<n)(hj:j<w):∃ x:QV,NQ g x (M i j)/\o.cell? (Addr.add (Addr.add ⟨rb i,0,none⟩ (j*4)) 0)=some (.bool x.s)/\o.cell? (Addr.add (Addr.add ⟨rb i,0,none⟩ (j*4)) 1)=some (.slice x.A x.n x.c)/\o.cell? (Addr.add (Addr.add ⟨rb i,0,none⟩ (j*4)) 2)=some (.bool x.s2)/\o.cell? (Addr.add (Addr.add ⟨rb i,0,none⟩ (j*4)) 3)=some (.slice x.A2 x.n2 x.c2):=by
 obtain ⟨xs,r,e,q⟩:=t.row i hi
 obtain ⟨x,e1,hx⟩:=q j hj
 have hu:xs[j]=x:=by
  rw [List.getElem?_eq_getElem (by omega)] at e1;exact Option.some.inj e1
 have cell:∀ k v,(enc x)[k]? = some v->o.cell? (Addr.add (Addr.add ⟨rb i,0,none⟩ (j*4)) k)=some v:=by
  intro k v hk
  rw [add_at,add_at,Nat.zero_add]
  exact r.cell (i:=j) (by omega) (j:=k) (by rw [hu];exact hk)
 exact ⟨x,hx,cell 0 _ rfl,cell 1 _ rfl,cell 2 _ rfl,cell 3 _ rfl⟩
def updQ(M:Nat->Nat->Rat)(i j:Nat)(q:Rat):Nat->Nat->Rat:=fun a b=>if a=i/\b=j then q else M a b
theorem Mt.store(t:Mt h g o bo rb n w M){i j:Nat}(hi:i<n)(hj:j<w){x:QV}{q:Rat}(hx:NQ g x q){K:Unit->Heap->Prop}
 (k:∀ h' o',Mt h' g o' bo rb n w (updQ M i j q)->(∀ k,k≠rb i->o' k=o k)->K () h'):wpH Tryz.prog (Instr.storeAt ty_tRats_e (.pointer (some (Addr.add ⟨rb i,0,none⟩ (j*4)))) x.v) K h:=by
 obtain ⟨xs,r,e,q'⟩:=t.row i hi
 rw [add_at,Nat.zero_add]
 refine Sep.store (E:=inferInstanceAs (Enc QV)) tRats_one (v:=x.v) (y:=x) rfl t.sep r (i:=j) (by omega) rfl ?_
 intro h' o' x' eo s' r'
 refine k h' o' ⟨s',?_,t.nb,t.inj,fun a ha=>?_⟩ (fun k hk=>by rw [eo,Heap.put_other _ _ hk])
 ·obtain ⟨hd,rh,h1,h2⟩:=t.hd
  exact ⟨hd,by rw [eo];exact rh.other (t.nb i hi).symm _,h1,h2⟩
 ·by_cases ea:a=i
  ·subst ea
   refine ⟨_,r',by simpa using e,?_⟩
   refine (Row.upd q' (k:=j) (by omega) hx).congr fun b _=>?_
   unfold updQ
   by_cases eb:b=j
   ·rw [if_pos eb,if_pos ⟨rfl,eb⟩]
   ·rw [if_neg eb,if_neg (fun x=>eb x.2)]
  ·obtain ⟨ys,ry,ey,qy⟩:=t.row a ha
   refine ⟨ys,by rw [eo];exact ry.other (fun e=>ea (t.inj a i ha hi e)) _,ey,qy.congr fun b _=>?_⟩
   unfold updQ
   rw [if_neg (fun x=>ea x.1)]
end
end Go.Proofs.YthilnfgnpdeofaaGreatDoor
