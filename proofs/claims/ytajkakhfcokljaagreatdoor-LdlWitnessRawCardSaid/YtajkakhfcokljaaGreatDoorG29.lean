/-
  Texts of this proof, merged by a program of ours.
-/
import Derived.Orders
import Derived.Test.YtajkakhfcokljaaGreatDoorG17
import Derived.Test.YtajkakhfcokljaaGreatDoorG27
import Derived.Test.YtajkakhfcokljaaGreatDoorG28
import Derived.Test.YtajkakhfcokljaaGreatDoorG21
import Derived.Test.YtajkakhfcokljaaGreatDoorG22
namespace Go.Proofs.YtajkakhfcokljaaGreatDoor
set_option maxRecDepth 20000
def sm:Nat->(Nat->Rat)->Rat
 | 0,_=>0
 | n+1,f=>sm n f+f n
theorem F7{n:Nat}{f g:Nat->Rat}(h:∀ i,i<n->f i=g i):sm n f=sm n g:=by
 induction n with
 | zero=>rfl
 | succ n ih=>rw [sm,sm,ih (fun i hi=>h i (by omega)),h n (by omega)]
theorem Dk{n:Nat}{f:Nat->Rat}(h:∀ i,i<n->f i=0):sm n f=0:=by
 induction n with
 | zero=>rfl
 | succ n ih=>rw [sm,ih (fun i hi=>h i (by omega)),h n (by omega)];exact Rat.add_zero 0
theorem Mh(n:Nat)(f g:Nat->Rat):sm n (fun i=>f i+g i)=sm n f+sm n g:=by
 induction n with
 | zero=>simp only [sm];exact (Rat.add_zero 0).symm
 | succ n ih=>simp only [sm];rw [ih];grind
theorem Me(n:Nat)(a:Rat)(f:Nat->Rat):sm n (fun i=>a*f i)=a*sm n f:=by
 induction n with
 | zero=>simp only [sm];grind
 | succ n ih=>simp only [sm];rw [ih];grind
theorem A5d(n:Nat)(f:Nat->Rat):sm n (fun i=> - f i)= - sm n f:=by
 induction n with
 | zero=>simp only [sm];grind
 | succ n ih=>simp only [sm];rw [ih];grind
theorem Zz(n m:Nat)(f:Nat->Nat->Rat):sm n (fun i=>sm m (f i))=sm m (fun j=>sm n (fun i=>f i j)):=by
 induction n with
 | zero=>rw [sm];exact (Dk fun _ _=>rfl).symm
 | succ n ih=>simp only [sm];rw [ih,<- Mh]
theorem Ok{n k:Nat}(hk:k<n){f:Nat->Rat}(h:∀ i,i<n->i≠k->f i=0):sm n f=f k:=by
 induction n with
 | zero=>omega
 | succ n ih=>
  rw [sm]
  by_cases e:k=n
  ·subst e;rw [Dk fun i hi=>h i (by omega) (by omega)];exact Rat.zero_add _
  ·rw [ih (by omega) fun i hi hne=>h i (by omega) hne,h n (by omega) (by omega)];exact Rat.add_zero _
def rhx(l i:Nat):Nat:=if i<l then i else i+1
theorem B54(l i:Nat):rhx l i≠l:=by unfold rhx;split<;>omega
theorem A1v{l i k:Nat}(hi:i<k):rhx l i<k+1:=by unfold rhx;split<;>omega
theorem B4z{k a:Nat}(ha:a<=k)(t:Nat->Rat):sm k (fun i=>t (rhx a i))=sm (k+1) (fun b=>if b=a then 0 else t b):=by
 induction k generalizing a with
 | zero=>
  show (0:Rat)=0+(if 0=a then 0 else t 0)
  rw [if_pos (by omega)];exact (Rat.add_zero 0).symm
 | succ k ih=>
  show sm k (fun i=>t (rhx a i))+t (rhx a k)=sm (k+1) (fun b=>if b=a then 0 else t b)+(if k+1=a then 0 else t (k+1))
  by_cases e:a=k+1
  ·rw [if_pos e.symm,Rat.add_zero]
   show sm k (fun i=>t (rhx a i))+t (rhx a k)=sm k (fun b=>if b=a then 0 else t b)+(if k=a then 0 else t k)
   rw [if_neg (by omega)]
   congr 1
   ·exact F7 fun i hi=>by rw [rhx,if_pos (by omega),if_neg (by omega)]
   ·rw [rhx,if_pos (by omega)]
  ·rw [ih (by omega),if_neg (fun x=>e x.symm)]
   congr 1
   rw [rhx,if_neg (by omega)]
def sg(n:Nat):Rat:=if n%2=0 then 1 else -1
def dt:Nat->(Nat->Nat->Rat)->Rat
 | 0,_=>1
 | k+1,X=>sm (k+1) fun l=>sg (k+l)*X k l*dt k (fun c r=>X c (rhx l r))
theorem S4{k:Nat}: ∀ {X Y:Nat->Nat->Rat},(∀ c r,c<k->r<k->X c r=Y c r)->dt k X=dt k Y:=by
 induction k with
 | zero=>intros;rfl
 | succ k ih=>
  intro X Y h
  rw [dt,dt]
  refine F7 fun l hl=>?_
  rw [h k l (by omega) hl,ih fun c r hc hr=>h c (rhx l r) (by omega) (A1v hr)]
def rc(X:Nat->Nat->Rat)(m:Nat)(y:Nat->Rat):Nat->Nat->Rat:=fun c r=>if c=m then y r else X c r
theorem Dm(X:Nat->Nat->Rat)(m:Nat)(y:Nat->Rat)(l:Nat):(fun c r=>rc X m y c (rhx l r))=rc (fun c r=>X c (rhx l r)) m (fun r=>y (rhx l r)):=by
 funext c r;unfold rc;split<;>rfl
theorem Xv{k:Nat}: ∀ (X:Nat->Nat->Rat) {m:Nat} (_:m<k) (y z:Nat->Rat),dt k (rc X m fun r=>y r+z r)=dt k (rc X m y)+dt k (rc X m z):=by
 induction k with
 | zero=>intros;omega
 | succ k ih=>
  intro X m hm y z
  rw [dt,dt,dt,<- Mh]
  refine F7 fun l hl=>?_
  by_cases e:m=k
  ·subst e
   have:∀ u:Nat->Rat,dt m (fun c r=>rc X m u c (rhx l r))=dt m (fun c r=>X c (rhx l r)):=fun u=>S4 fun c r hc _=>by rw [rc,if_neg (by omega)]
   rw [this,this,this]
   simp only [rc,if_true]
   grind
  ·rw [Dm,Dm,Dm,ih _ (by omega)]
   simp only [rc,if_neg (fun x:k=m=>e x.symm)]
   grind
theorem A6z{k:Nat}: ∀ (X:Nat->Nat->Rat) {m:Nat} (_:m<k) (a:Rat) (y:Nat->Rat),dt k (rc X m fun r=>a*y r)=a*dt k (rc X m y):=by
 induction k with
 | zero=>intros;omega
 | succ k ih=>
  intro X m hm a y
  rw [dt,dt,<- Me]
  refine F7 fun l hl=>?_
  by_cases e:m=k
  ·subst e
   have:∀ u:Nat->Rat,dt m (fun c r=>rc X m u c (rhx l r))=dt m (fun c r=>X c (rhx l r)):=fun u=>S4 fun c r hc _=>by rw [rc,if_neg (by omega)]
   rw [this,this]
   simp only [rc,if_true]
   grind
  ·rw [Dm,Dm,ih _ (by omega)]
   simp only [rc,if_neg (fun x:k=m=>e x.symm)]
   grind
theorem B3l{k:Nat}(X:Nat->Nat->Rat){m:Nat}(hm:m<k):dt k (rc X m fun _=>0)=0:=by
 have:=A6z X hm 0 (fun _=>0)
 rw [Rat.zero_mul] at this
 simpa only [Rat.zero_mul] using this
theorem B1w{k:Nat}(X:Nat->Nat->Rat){m:Nat}(hm:m<k)(a:Nat->Rat)(Y:Nat->Nat->Rat):∀ n,dt k (rc X m fun r=>sm n fun t=>a t*Y t r)=sm n fun t=>a t*dt k (rc X m (Y t)):=by
 intro n
 induction n with
 | zero=>exact B3l X hm
 | succ n ih=>
  simp only [sm]
  rw [Xv X hm,ih,A6z X hm]
theorem A08(X:Nat->Nat->Rat)(m:Nat):rc X m (X m)=X:=by
 funext c r;unfold rc;split
 ·rename_i e;rw [e]
 ·rfl
theorem A2e{k:Nat}(X:Nat->Nat->Rat)(h:∀ r,r<k+2->X k r=X (k+1) r):dt (k+2) X=0:=by
 let mn:Nat->Nat->Rat:=fun a b=>dt k (fun c r=>X c (if a<b then rhx a (rhx (b-1) r) else rhx b (rhx (a-1) r)))
 let G:Nat->Nat->Rat:=fun a b=>if a=b then 0 else if b<a then sg (a+b)*X (k+1) a*X (k+1) b*mn a b else-(sg (a+b)*X (k+1) a*X (k+1) b*mn a b)
 have hmn:∀ a b,mn a b=mn b a:=by
  intro a b
  show dt k _=dt k _
  refine S4 fun c r _ _=>?_
  by_cases h1:a<b
  ·rw [if_pos h1,if_neg (by omega)]
  ·by_cases h2:b<a
   ·rw [if_neg h1,if_pos h2]
   ·have:a=b:=by omega
    subst this;rfl
 have hG:∀ a b,G b a= - G a b:=by
  intro a b
  show (if b=a then 0 else if a<b then _ else _)= - (if a=b then 0 else if b<a then _ else _)
  by_cases e:a=b
  ·rw [if_pos e,if_pos e.symm];grind
  ·rw [if_neg e,if_neg (fun x=>e x.symm)]
   have hc:=hmn a b
   by_cases h1:a<b
   ·rw [if_pos h1,if_neg (by omega),Nat.add_comm b a];grind
   ·rw [if_neg h1,if_pos (by omega),Nat.add_comm b a];grind
 have main:dt (k+2) X=sm (k+2) fun a=>sm (k+2) fun b=>G a b*sg (k+1+k):=by
  rw [dt]
  refine F7 fun a ha=>?_
  have e1:(fun b=>G a b*sg (k+1+k))=(fun b=>if b=a then 0 else (fun b=>G a b*sg (k+1+k)) b):=by
   funext b
   by_cases e:b=a
   ·subst e;rw [if_pos rfl];show (if b=b then 0 else _)*_=_;rw [if_pos rfl];grind
   ·rw [if_neg e]
  rw [e1,<- B4z (by omega) (fun b=>G a b*sg (k+1+k)),dt,<- Me]
  refine F7 fun i hi=>?_
  have hxe:X k (rhx a i)=X (k+1) (rhx a i):=h _ (A1v hi)
  have hmin:dt k (fun c r=>X c (rhx a (rhx i r)))=mn a (rhx a i):=by
   show _=dt k _
   refine S4 fun c r _ _=>?_
   by_cases h1:i<a
   ·have e2:rhx a i=i:=by rw [rhx,if_pos h1]
    rw [e2,if_neg (by omega)]
    congr 1
    simp only [rhx]
    repeat' split
    all_goals omega
   ·have e2:rhx a i=i+1:=by rw [rhx,if_neg h1]
    rw [e2,if_pos (by omega),Nat.add_sub_cancel]
  rw [hxe,hmin]
  show _=(if a=rhx a i then 0 else if rhx a i<a then _ else _)*_
  rw [if_neg (fun e=>B54 a i e.symm)]
  have hs:∀ x y:Nat,x%2=y%2->sg x=sg y:=fun x y e=>by unfold sg;rw [e]
  by_cases h1:i<a
  ·have e2:rhx a i=i:=by rw [rhx,if_pos h1]
   rw [e2,if_pos h1]
   have e3:sg (k+1+a)*sg (k+i)=sg (a+i)*sg (k+1+k):=by
    unfold sg
    repeat' split
    all_goals first|omega|grind
   grind
  ·have e2:rhx a i=i+1:=by rw [rhx,if_neg h1]
   rw [e2,if_neg (by omega)]
   have e3:sg (k+1+a)*sg (k+i)= - sg (a+(i+1))*sg (k+1+k):=by
    unfold sg
    repeat' split
    all_goals first|omega|grind
   grind
 have h2:dt (k+2) X= - dt (k+2) X:=by
  have:dt (k+2) X=sm (k+2) fun a=>sm (k+2) fun b=>G b a*sg (k+1+k):=by
   rw [main];exact Zz _ _ _
  refine this.trans ?_
  rw [main,<- A5d]
  refine F7 fun a _=>?_
  rw [<- A5d]
  exact F7 fun b _=>by rw [hG];grind
 grind
theorem B3n:∀ {k:Nat} (X:Nat->Nat->Rat) {p q:Nat} (_:p<q) (_:q<k) (_:∀ r,r<k->X p r=X q r),dt k X=0:=by
 intro k
 induction k with
 | zero=>intros;omega
 | succ k ih=>
  intro X p q hpq hq h
  by_cases e:q=k
  ·subst e
   by_cases e2:p+1=q
   ·subst e2
    exact A2e X h
   ·
    obtain ⟨k',rfl⟩:∃ k',q=k'+1:=⟨q-1,by omega⟩
    have hp:p<k':=by omega
    have swap:∀ (Z:Nat->Nat->Rat),dt (k'+1) (rc (rc Z p (Z k')) k' (Z p))= - dt (k'+1) Z:=by
     intro Z
     have z0:∀ y:Nat->Rat,dt (k'+1) (rc (rc Z p y) k' y)=0:=fun y=>ih _ hp (by omega) fun r _=>by
      unfold rc;rw [if_neg (by omega),if_pos rfl,if_pos rfl]
     have comm:∀ y z:Nat->Rat,rc (rc Z p y) k' z=rc (rc Z k' z) p y:=by
      intro y z;funext c r;unfold rc
      by_cases h1:c=k'
      ·by_cases h2:c=p
       ·omega
       ·rw [if_pos h1,if_neg h2,if_pos h1]
      ·by_cases h2:c=p
       ·rw [if_neg h1,if_pos h2,if_pos h2]
       ·rw [if_neg h1,if_neg h2,if_neg h2,if_neg h1]
     have s1:=z0 (fun r=>Z p r+Z k' r)
     rw [Xv _ (by omega)] at s1
     rw [comm _ (Z p),comm _ (Z k'),Xv _ (by omega),Xv _ (by omega)] at s1
     rw [<- comm,<- comm,<- comm,<- comm] at s1
     rw [z0 (Z p),z0 (Z k')] at s1
     have e3:rc (rc Z p (Z p)) k' (Z k')=Z:=by rw [A08,A08]
     rw [e3] at s1
     grind
    have hX:dt (k'+1+1) X= - dt (k'+1+1) (rc (rc X p (X k')) k' (X p)):=by
     rw [dt,dt,<- A5d]
     refine F7 fun l _=>?_
     have e4:rc (rc X p (X k')) k' (X p) (k'+1) l=X (k'+1) l:=by unfold rc;rw [if_neg (by omega),if_neg (by omega)]
     have e5:(fun c r=>rc (rc X p (X k')) k' (X p) c (rhx l r))=rc (rc (fun c r=>X c (rhx l r)) p (fun r=>X k' (rhx l r))) k' (fun r=>X p (rhx l r)):=by
      rw [Dm,Dm]
     have:=swap (fun c r=>X c (rhx l r))
     rw [e4,e5,this]
     grind
    rw [hX,A2e _ fun r hr=>?_]
    ·grind
    ·have e6:rc (rc X p (X k')) k' (X p) k' r=X p r:=by unfold rc;rw [if_pos rfl]
     have e7:rc (rc X p (X k')) k' (X p) (k'+1) r=X (k'+1) r:=by unfold rc;rw [if_neg (by omega),if_neg (by omega)]
     rw [e6,e7];exact h r hr
  ·rw [dt]
   refine Dk fun l _=>?_
   rw [ih _ hpq (by omega) fun r hr=>h (rhx l r) (A1v hr)]
   grind
theorem B3m{k:Nat}(X:Nat->Nat->Rat)(h:∀ r,r<k->X k r=0):dt (k+1) X=X k k*dt k X:=by
 rw [dt,Ok (k:=k) (by omega) fun i hi hne=>by rw [h i (by omega)];grind]
 have:dt k (fun c r=>X c (rhx k r))=dt k X:=S4 fun c r _ hr=>by rw [rhx,if_pos hr]
 have hs:sg (k+k)=1:=by unfold sg;rw [if_pos (by omega)]
 rw [this,hs,Rat.one_mul]
def Wh(q:Rat):Prop:=∃ z:Int,q=(z:Rat)
theorem Wh.add{p q:Rat}(hp:Wh p)(hq:Wh q):Wh (p+q):=by
 obtain ⟨a,rfl⟩:=hp;obtain ⟨b,rfl⟩:=hq
 exact ⟨a+b,by rw [Rat.intCast_add]⟩
theorem Wh.mul{p q:Rat}(hp:Wh p)(hq:Wh q):Wh (p*q):=by
 obtain ⟨a,rfl⟩:=hp;obtain ⟨b,rfl⟩:=hq
 exact ⟨a*b,by rw [Rat.intCast_mul]⟩
theorem Wh.sg(n:Nat):Wh (sg n):=by
 unfold Go.Proofs.YtajkakhfcokljaaGreatDoor.sg
 split
 ·exact ⟨1,rfl⟩
 ·exact ⟨-1,by decide +kernel⟩
theorem Wh.sm{n:Nat}{f:Nat->Rat}(h:∀ i,i<n->Wh (f i)):Wh (sm n f):=by
 induction n with
 | zero=>exact ⟨0,rfl⟩
 | succ n ih=>exact (ih fun i hi=>h i (by omega)).add (h n (by omega))
theorem B5u{k:Nat}: ∀ {X:Nat->Nat->Rat},(∀ c r,c<k->r<k->Wh (X c r))->Wh (dt k X):=by
 induction k with
 | zero=>intro X _;exact ⟨1,rfl⟩
 | succ k ih=>
  intro X h
  rw [dt]
  refine Wh.sm fun l hl=>?_
  exact ((Wh.sg _).mul (h k l (by omega) hl)).mul (ih fun c r hc hr=>h c _ (by omega) (A1v hr))
structure Elim (n w:Nat) (B R:Nat->Nat->Rat) (cs:Nat->Nat) (k:Nat):Prop where
 kn:k<=n
 cw:∀ m,m<k->cs m<w
 piv:∀ l m,l<k->m<k->R l (cs m)=if l=m then 1 else 0
 low:∀ i m,i<n->k<=i->m<k->R i (cs m)=0
 top:∀ l j,l<k->j<w->B l j=sm k fun m=>B l (cs m)*R m j
 bot:∀ i j,i<n->k<=i->j<w->B i j=R i j+sm k fun m=>B i (cs m)*R m j
def dp(B:Nat->Nat->Rat)(cs:Nat->Nat)(k:Nat):Rat:=dt k fun c r=>B r (cs c)
section
variable {n w:Nat} {B R:Nat->Nat->Rat} {cs:Nat->Nat} {k:Nat}
theorem Elim.below(E:Elim n w B R cs k){i j:Nat}(hi:i<n)(hk:k<=i)(hj:j<w):dp B cs k*R i j=dt (k+1) fun c r=>B (if r<k then r else i) (if c<k then cs c else j):=by
 have e0:(fun c r=>B (if r<k then r else i) (if c<k then cs c else j))=rc (fun c r=>B (if r<k then r else i) (cs c)) k (fun r=>B (if r<k then r else i) j)\/True:=.inr trivial
 clear e0
 let X:Nat->Nat->Rat:=fun c r=>B (if r<k then r else i) (cs c)
 have h1:dt (k+1) (fun c r=>B (if r<k then r else i) (if c<k then cs c else j))=dt (k+1) (rc X k fun r=>(sm k fun t=>R t j*X t r)+(if r<k then 0 else R i j)):=by
  refine S4 fun c r hc hr=>?_
  unfold rc
  by_cases h:c=k
  ·subst h
   rw [if_neg (Nat.lt_irrefl c),if_pos rfl]
   show _=(sm c fun t=>R t j*X t r)+(if r<c then 0 else R i j)
   by_cases h2:r<c
   ·rw [if_pos h2,if_pos h2,Rat.add_zero,E.top r j h2 hj]
    refine F7 fun m _=>?_
    show _=_*B (if r<c then r else i) (cs m)
    rw [if_pos h2,Rat.mul_comm]
   ·rw [if_neg h2,if_neg h2,E.bot i j hi hk hj,Rat.add_comm]
    congr 1
    refine F7 fun m _=>?_
    show _=_*B (if r<c then r else i) (cs m)
    rw [if_neg h2,Rat.mul_comm]
  ·rw [if_neg h,if_pos (show c<k by omega)]
 rw [h1,Xv _ (by omega),B1w X (by omega) (fun t=>R t j) X]
 rw [Dk fun t ht=>by
  rw [B3n (rc X k (X t)) (p:=t) (q:=k) ht (by omega) fun r _=>by unfold rc;rw [if_neg (by omega),if_pos rfl]]
  exact Rat.mul_zero _]
 rw [B3m _ fun r hr=>by unfold rc;rw [if_pos rfl];show (if r<k then 0 else R i j)=0;rw [if_pos hr]]
 have e2:dt k (rc X k fun r=>if r<k then 0 else R i j)=dp B cs k:=by
  refine S4 fun c r hc hr=>?_
  unfold rc
  rw [if_neg (by omega)]
  show B (if r<k then r else i) (cs c)=_
  rw [if_pos hr]
 rw [e2]
 unfold rc
 rw [if_pos rfl]
 show _=0+(if k<k then 0 else R i j)*_
 rw [if_neg (Nat.lt_irrefl k)]
 grind
theorem Elim.above(E:Elim n w B R cs k){i j:Nat}(hi:i<k)(hj:j<w):dp B cs k*R i j=dt k (rc (fun c r=>B r (cs c)) i fun r=>B r j):=by
 let X:Nat->Nat->Rat:=fun c r=>B r (cs c)
 have h1:dt k (rc X i fun r=>B r j)=dt k (rc X i fun r=>sm k fun t=>R t j*X t r):=by
  refine S4 fun c r hc hr=>?_
  unfold rc
  split
  ·show B r j=sm k fun t=>R t j*X t r
   rw [E.top r j hr hj]
   exact F7 fun m _=>Rat.mul_comm _ _
  ·rfl
 show _=dt k (rc X i fun r=>B r j)
 rw [h1,B1w X hi (fun t=>R t j) X,Ok (k:=i) hi fun t ht hne=>?_]
 ·rw [A08,Rat.mul_comm];rfl
 ·rcases Nat.lt_or_ge t i with h|h
  ·rw [B3n (rc X i (X t)) (p:=t) (q:=i) h hi fun r _=>by unfold rc;rw [if_neg (by omega),if_pos rfl]]
   exact Rat.mul_zero _
  ·rw [B3n (rc X i (X t)) (p:=i) (q:=t) (by omega) ht fun r _=>by unfold rc;rw [if_pos rfl,if_neg (by omega)]]
   exact Rat.mul_zero _
theorem Elim.whole(E:Elim n w B R cs k)(hB:∀ i j,i<n->j<w->Wh (B i j)){i j:Nat}(hi:i<n)(hj:j<w):Wh (dp B cs k*R i j):=by
 by_cases h:i<k
 ·rw [E.above h hj]
  refine B5u fun c r hc hr=>?_
  have:=E.kn
  unfold rc
  split
  ·exact hB r j (by omega) hj
  ·exact hB r _ (by omega) (E.cw c hc)
 ·rw [E.below hi (by omega) hj]
  refine B5u fun c r hc hr=>?_
  refine hB _ _ ?_ ?_
  ·split<;>omega
  ·split
   ·exact E.cw c (by assumption)
   ·exact hj
theorem Elim.next(E:Elim n w B R cs k){j:Nat}(hk:k<n)(hj:j<w)(hc:cs k=j):dp B cs (k+1)=dp B cs k*R k j:=by
 rw [E.below hk (Nat.le_refl _) hj]
 refine S4 fun c r hc' hr=>?_
 have e1:(if r<k then r else k)=r:=by split<;>omega
 have e2:(if c<k then cs c else j)=cs c:=by
  split
  ·rfl
  ·have:c=k:=by omega
   rw [this,hc]
 rw [e1,e2]
def Cp(R:Nat->Nat->Rat)(k j:Nat):Nat->Nat->Rat:=fun a b=>if a=k then R k b/R k j else R a b-R a j*(R k b/R k j)
theorem Elim.step(E:Elim n w B R cs k){j:Nat}(hk:k<n)(hj:j<w)(hc:cs k=j)(hne:R k j≠0):Elim n w B (Cp R k j) cs (k+1):=by
 have piv0:∀ m,m<k->R k (cs m)=0:=fun m hm=>E.low k m hk (Nat.le_refl _) hm
 have hkk:R k j/R k j=1:=by grind
 refine ⟨by omega,fun m hm=>?_,fun l m hl hm=>?_,fun i m hi hki hm=>?_,fun l b hl hb=>?_,fun i b hi hki hb=>?_⟩
 ·by_cases e:m=k
  ·rw [e,hc];exact hj
  ·exact E.cw m (by omega)
 ·unfold Cp
  by_cases em:m=k
  ·subst em
   rw [hc]
   by_cases el:l=m
   ·rw [if_pos el,if_pos el];exact hkk
   ·rw [if_neg el,if_neg el,hkk];grind
  ·have hm':m<k:=by omega
   rw [piv0 m hm']
   by_cases el:l=k
   ·subst el
    rw [if_pos rfl,if_neg (by omega)];grind
   ·rw [if_neg el,E.piv l m (by omega) hm']
    grind
 ·unfold Cp
  rw [if_neg (by omega)]
  by_cases em:m=k
  ·subst em
   rw [hc,hkk];grind
  ·have hm':m<k:=by omega
   rw [piv0 m hm',E.low i m hi (by omega) hm']
   grind
 ·rw [sm]
  have e1:(Cp R k j) k b=R k b/R k j:=by unfold Cp;rw [if_pos rfl]
  have e2:sm k (fun m=>B l (cs m)*Cp R k j m b)=sm k (fun m=>B l (cs m)*R m b)-sm k (fun m=>B l (cs m)*R m j)*(R k b/R k j):=by
   have:(fun m=>B l (cs m)*Cp R k j m b)=fun m=>if m=k then B l (cs k)*(R k b/R k j) else B l (cs m)*R m b+(-(R k b/R k j))*(B l (cs m)*R m j):=by
    funext m
    unfold Cp
    by_cases e:m=k
    ·rw [if_pos e,if_pos e,e]
    ·rw [if_neg e,if_neg e];grind
   rw [this,F7 (g:=fun m=>B l (cs m)*R m b+(-(R k b/R k j))*(B l (cs m)*R m j)) fun m hm=>by rw [if_neg (by omega)]]
   rw [Mh,Me];grind
  rw [e1,e2,hc]
  by_cases el:l=k
  ·subst el
   have t1:=E.bot l b hk (Nat.le_refl _) hb
   have t2:=E.bot l j hk (Nat.le_refl _) hj
   grind
  ·have t1:=E.top l b (by omega) hb
   have t2:=E.top l j (by omega) hj
   grind
 ·rw [sm]
  have e1:(Cp R k j) k b=R k b/R k j:=by unfold Cp;rw [if_pos rfl]
  have e2:sm k (fun m=>B i (cs m)*Cp R k j m b)=sm k (fun m=>B i (cs m)*R m b)-sm k (fun m=>B i (cs m)*R m j)*(R k b/R k j):=by
   have:(fun m=>B i (cs m)*Cp R k j m b)=fun m=>if m=k then B i (cs k)*(R k b/R k j) else B i (cs m)*R m b+(-(R k b/R k j))*(B i (cs m)*R m j):=by
    funext m
    unfold Cp
    by_cases e:m=k
    ·rw [if_pos e,if_pos e,e]
    ·rw [if_neg e,if_neg e];grind
   rw [this,F7 (g:=fun m=>B i (cs m)*R m b+(-(R k b/R k j))*(B i (cs m)*R m j)) fun m hm=>by rw [if_neg (by omega)]]
   rw [Mh,Me];grind
  have e3:Cp R k j i b=R i b-R i j*(R k b/R k j):=by unfold Cp;rw [if_neg (by omega)]
  have t1:=E.bot i b hi (by omega) hb
  have t2:=E.bot i j hi (by omega) hj
  rw [e1,e2,e3,hc]
  grind
def xch(k l:Nat)(i:Nat):Nat:=if i=k then l else if i=l then k else i
theorem Elim.swap(E:Elim n w B R cs k){l:Nat}(hk:k<=l)(hl:l<n):Elim n w (fun i=>B (xch k l i)) (fun i=>R (xch k l i)) cs k:=by
 have hx:∀ i,i<k->xch k l i=i:=fun i hi=>by unfold xch;rw [if_neg (by omega),if_neg (by omega)]
 have hy:∀ i,i<n->k<=i->xch k l i<n/\k<=xch k l i:=fun i h1 h2=>by unfold xch;split<;>(try split)<;>omega
 refine ⟨E.kn,E.cw,fun a m ha hm=>?_,fun i m hi hki hm=>?_,fun a j ha hj=>?_,fun i j hi hki hj=>?_⟩
 ·show R (xch k l a) _=_
  rw [hx a ha];exact E.piv a m ha hm
 ·have:=hy i hi hki
  exact E.low _ m this.1 this.2 hm
 ·show B (xch k l a) j=sm k fun m=>B (xch k l a) (cs m)*R (xch k l m) j
  rw [hx a ha,E.top a j ha hj]
  exact F7 fun m hm=>by rw [hx m hm]
 ·have:=hy i hi hki
  show B (xch k l i) j=R (xch k l i) j+sm k fun m=>B (xch k l i) (cs m)*R (xch k l m) j
  rw [E.bot _ j this.1 this.2 hj]
  congr 1
  exact F7 fun m hm=>by rw [hx m hm]
theorem B3o(B:Nat->Nat->Rat)(cs:Nat->Nat){k l:Nat}(hk:k<=l):dp (fun i=>B (xch k l i)) cs k=dp B cs k:=by
 refine S4 fun c r _ hr=>?_
 show B (xch k l r) _=_
 unfold xch;rw [if_neg (by omega),if_neg (by omega)]
theorem Elim.start:Elim n w B B cs 0:=by
 refine ⟨Nat.zero_le _,fun m hm=>by omega,fun l m hl=>by omega,fun i m _ _ hm=>by omega,fun l j hl=>by omega,fun i j _ _ _=>by rw [sm,Rat.add_zero]⟩
theorem Elim.cs_congr{cs':Nat->Nat}(E:Elim n w B R cs k)(h:∀ m,m<k->cs m=cs' m):Elim n w B R cs' k:=by
 refine ⟨E.kn,fun m hm=>by rw [<- h m hm];exact E.cw m hm,fun l m hl hm=>by rw [<- h m hm];exact E.piv l m hl hm,fun i m h1 h2 hm=>by rw [<- h m hm];exact E.low i m h1 h2 hm,fun l j hl hj=>?_,fun i j h1 h2 hj=>?_⟩
 ·rw [E.top l j hl hj];exact F7 fun m hm=>by rw [h m hm]
 ·rw [E.bot i j h1 h2 hj];congr 1;exact F7 fun m hm=>by rw [h m hm]
theorem B04{cs':Nat->Nat}(h:∀ m,m<k->cs m=cs' m):dp B cs k=dp B cs' k:=S4 fun c r hc _=>by rw [h c hc]
end
end Go.Proofs.YtajkakhfcokljaaGreatDoor
namespace Go.Proofs.YtajkakhfcokljaaGreatDoor
set_option maxRecDepth 20000
def fnd(p:Nat->Bool):Nat->Nat->Nat
 | 0,i=>i
 | f+1,i=>bif p i then i else fnd p f (i+1)
theorem A6h(p:Nat->Bool):∀ f i,i<=fnd p f i/\fnd p f i<=i+f:=by
 intro f
 induction f with
 | zero=>intro i;simp [fnd]
 | succ f ih=>
  intro i
  unfold fnd
  cases p i with
  | true=>simp
  | false=>have:=ih (i+1);simp only [cond_false];omega
theorem A6i(p:Nat->Bool):∀ f i,fnd p f i<i+f->p (fnd p f i)=true:=by
 intro f
 induction f with
 | zero=>intro i h;simp [fnd] at h
 | succ f ih=>
  intro i h
  unfold fnd at h ⊢
  cases hp:p i with
  | true=>simp only [hp,cond_true]
  | false=>simp only [hp,cond_false] at h ⊢;exact ih (i+1) (by omega)
theorem A27(p:Nat->Bool):∀ f i j,i<=j->j<fnd p f i->p j=false:=by
 intro f
 induction f with
 | zero=>intro i j h1 h2;simp [fnd] at h2;omega
 | succ f ih=>
  intro i j h1 h2
  unfold fnd at h2
  cases hp:p i with
  | true=>simp only [hp,cond_true] at h2;omega
  | false=>
   simp only [hp,cond_false] at h2
   by_cases e:j=i
   ·rw [e];exact hp
   ·exact ih (i+1) j (by omega) h2
theorem A6j{p q:Nat->Bool}: ∀ f i,(∀ j,i<=j->j<i+f->p j=q j)->fnd p f i=fnd q f i:=by
 intro f
 induction f with
 | zero=>intros;rfl
 | succ f ih=>
  intro i h
  unfold fnd
  rw [h i (by omega) (by omega),ih (i+1) fun j h1 h2=>h j (by omega) (by omega)]
theorem B1h(p:Nat->Bool){f i k:Nat}(h1:i<=k)(h2:k<=i+f)(h3:∀ j,i<=j->j<k->p j=false)(h4:k<i+f->p k=true):fnd p f i=k:=by
 have a:=A6h p f i
 rcases Nat.lt_trichotomy (fnd p f i) k with h|h|h
 ·have:=A6i p f i (by omega);rw [h3 _ a.1 h] at this;cases this
 ·exact h
 ·have:=A27 p f i k h1 h;rw [h4 (by omega)] at this;cases this
structure ES where
 R:Nat->Nat->Rat
 cs:List Nat
 det:Rat
def Hb(R:Nat->Nat->Rat)(k j:Nat):Nat->Nat->Rat:=fun a b=>if a=k then R k b/R k j else if R a j=0\/b<j then R a b else R a b-R a j*(R k b/R k j)
def A1u(n c:Nat)(s:ES):Nat:=fnd (fun i=>decide (s.R i c≠0)) (n-s.cs.length) s.cs.length
def A5b(n c:Nat)(s:ES):ES:=
 if s.cs.length<n then
  if A1u n c s<n then
   { R:=Hb (fun i=>s.R (xch s.cs.length (A1u n c s) i)) s.cs.length c
     cs:=s.cs++[c]
     det:=(if A1u n c s=s.cs.length then s.det else-s.det)*s.R (A1u n c s) c }
  else { s with det:=0 }
 else s
def B53(n:Nat)(s:ES):Nat->ES
 | 0=>s
 | c+1=>A5b n c (B53 n s c)
structure PS where
 M:Nat->Nat->Int
 S:Nat->Rat
 cs:List Nat
 last:Int
 sgn:Int
def clr(M:Nat->Nat->Int)(r c:Nat)(d:Int):Nat->Nat->Int:=fun a b=>if a=r then M r b else (M r c*M a b-M a c*M r b).tdiv d
def A37(n c:Nat)(s:PS):Nat:=fnd (fun i=>decide (s.M i c≠0)) (n-s.cs.length) s.cs.length
def Tu(n c:Nat)(s:PS):PS:=
 if A37 n c s<n then
  { M:=clr (fun i=>s.M (xch s.cs.length (A37 n c s) i)) s.cs.length c s.last
    S:=fun i=>s.S (xch s.cs.length (A37 n c s) i)
    cs:=s.cs++[c]
    last:=s.M (A37 n c s) c
    sgn:=if A37 n c s=s.cs.length then s.sgn else-s.sgn }
 else s
def B6p(n:Nat)(s:PS):Nat->PS
 | 0=>s
 | c+1=>Tu n c (B6p n s c)
def pr:Nat->(Nat->Rat)->Rat
 | 0,_=>1
 | n+1,f=>pr n f*f n
theorem A9k{n:Nat}{f g:Nat->Rat}(h:∀ i,i<n->f i=g i):pr n f=pr n g:=by
 induction n with
 | zero=>rfl
 | succ n ih=>rw [pr,pr,ih (fun i hi=>h i (by omega)),h n (by omega)]
theorem Tm(k l:Nat):xch k l k=l:=by unfold xch;rw [if_pos rfl]
theorem A4o{k l i n:Nat}(hk:k<n)(hl:l<n)(hi:i<n):xch k l i<n:=by unfold xch;split<;>(try split)<;>omega
theorem B11{k l i:Nat}(hkl:k<=l)(hi:k<=i):k<=xch k l i:=by unfold xch;split<;>(try split)<;>omega
theorem Wf{k l i:Nat}(hkl:k<=l)(hi:i<k):xch k l i=i:=by unfold xch;rw [if_neg (by omega),if_neg (by omega)]
theorem Zv{x d z:Int}(hd:d≠0)(h:x=d*z):x.tdiv d=z:=by
 rw [h,Int.mul_tdiv_cancel_left _ hd]
structure ERel (n w c:Nat) (A:Nat->Nat->Rat) (s:ES) (t:PS):Prop where
 cs:s.cs=t.cs
 elim:∃ B,(∀ i j,i<n->j<w->Wh (B i j))/\Elim n w B (fun i j=>if i<s.cs.length then s.R i j else t.S i*s.R i j) (fun m=>s.cs.getD m 0) s.cs.length/\(t.last:Rat)=dp B (fun m=>s.cs.getD m 0) s.cs.length
 last:t.last≠0
 val:∀ i j,i<n->j<w->(t.M i j:Rat)=t.last*(if i<s.cs.length then s.R i j else t.S i*s.R i j)
 scale:∀ i,i<n->t.S i≠0
 zero:∀ i j,i<n->s.cs.length<=i->j<c->s.R i j=0
 asc:s.cs.length<=c
 det:s.cs.length=c->s.det*pr s.cs.length t.S=t.sgn*t.last
 miss:s.cs.length<c->s.cs.length<n->s.det=0
 sgn:t.sgn=1\/t.sgn= -1
theorem T3{z:Int}(h:z≠0):(z:Rat)≠0:=by
 intro e
 exact h (by exact_mod_cast e)
theorem ERel.start{n w:Nat}{A:Nat->Nat->Rat}{M:Nat->Nat->Int}{S:Nat->Rat}(h:∀ i j,i<n->j<w->(M i j:Rat)=S i*A i j)(hS:∀ i,i<n->S i≠0):ERel n w 0 A ⟨A,[],1⟩ ⟨M,S,[],1,1⟩:=by
 have e:∀ (x:Rat),((1:Int):Rat)*x=x:=fun x=>by
  have:((1:Int):Rat)=1:=rfl
  rw [this,Rat.one_mul]
 refine ⟨rfl,⟨fun i j=>S i*A i j,fun i j hi hj=>⟨M i j,(h i j hi hj).symm⟩,?_,rfl⟩,(by decide:(1:Int)≠0),fun i j hi hj=>?_,hS,fun i j _ _ hj=>by omega,Nat.le_refl _,fun _=>?_,fun h=>by simp at h,.inl rfl⟩
 ·have:(fun i j=>if i<([]:List Nat).length then A i j else S i*A i j)=fun i j=>S i*A i j:=by
   funext i j;rw [if_neg (by simp)]
  show Elim n w _ (fun i j=>if i<([]:List Nat).length then A i j else S i*A i j) _ 0
  rw [this]
  exact Elim.start
 ·show (M i j:Rat)=((1:Int):Rat)*(if i<([]:List Nat).length then A i j else S i*A i j)
  rw [e,if_neg (by simp),h i j hi hj]
 ·show (1:Rat)*pr 0 S=((1:Int):Rat)*((1:Int):Rat)
  rw [e]
  exact Rat.one_mul _
theorem A6c(l:List Nat)(c:Nat):∀ m,m<l.length->(l++[c]).getD m 0=l.getD m 0:=by
 intro m hm
 rw [List.getD_eq_getElem?_getD,List.getD_eq_getElem?_getD,List.getElem?_append_left hm]
theorem A6d(l:List Nat)(c:Nat):(l++[c]).getD l.length 0=c:=by
 rw [List.getD_eq_getElem?_getD,List.getElem?_append_right (Nat.le_refl _)];simp
theorem ERel.row{n w c:Nat}{A:Nat->Nat->Rat}{s:ES}{t:PS}(h:ERel n w c A s t)(hc:c<w):A37 n c t=A1u n c s:=by
 unfold A37 A1u
 rw [<- h.cs]
 refine A6j _ _ fun j h1 h2=>?_
 have hv:=h.val j c (by omega) hc
 rw [if_neg (by omega)] at hv
 have h3:=T3 h.last
 have h4:=h.scale j (by omega)
 refine decide_eq_decide.2 (not_congr ⟨fun e=>?_,fun e=>?_⟩)
 ·rw [e] at hv
  have h0:((0:Int):Rat)=0:=rfl
  rw [h0] at hv
  rcases Rat.mul_eq_zero.1 hv.symm with e1|e1
  ·exact absurd e1 h3
  ·rcases Rat.mul_eq_zero.1 e1 with e2|e2
   ·exact absurd e2 h4
   ·exact e2
 ·rw [e,Rat.mul_zero,Rat.mul_zero] at hv
  exact_mod_cast hv
theorem ERel.step{n w c:Nat}{A:Nat->Nat->Rat}{s:ES}{t:PS}(h:ERel n w c A s t)(hc:c<w):ERel n w (c+1) A (A5b n c s) (Tu n c t):=by
 have hrow:=h.row hc
 have hlen:=A6h (fun i=>decide (s.R i c≠0)) (n-s.cs.length) s.cs.length
 have hmiss:=A27 (fun i=>decide (s.R i c≠0)) (n-s.cs.length) s.cs.length
 have hhit:=A6i (fun i=>decide (s.R i c≠0)) (n-s.cs.length) s.cs.length
 have hR:fnd (fun i=>decide (s.R i c≠0)) (n-s.cs.length) s.cs.length=A1u n c s:=rfl
 rw [hR] at hlen hmiss hhit
 obtain ⟨B,hB,E,hD⟩:=h.elim
 unfold A5b Tu
 rw [hrow]
 by_cases hk:A1u n c s<n
 ·have hkn:s.cs.length<n:=by omega
  rw [if_pos hkn,if_pos hk,if_pos hk,<- h.cs]
  generalize hr:A1u n c s=r at *
  generalize hl:s.cs.length=k at *
  have hne:s.R r c≠0:=by
   have:=hhit (by omega)
   simpa using this
  have E1:=E.swap (l:=r) hlen.1 hk
  have hcs1:∀ m,m<k->s.cs.getD m 0=(s.cs++[c]).getD m 0:=fun m hm=>(A6c s.cs c m (by omega)).symm
  have E2:=E1.cs_congr hcs1
  have hlast:(s.cs++[c]).getD k 0=c:=by rw [<- hl];exact A6d _ _
  have hlen':(s.cs++[c]).length=k+1:=by rw [List.length_append,hl];rfl
  have xk:xch k r k=r:=Tm k r
  have hp0:(if xch k r k<k then s.R (xch k r k) c else t.S (xch k r k)*s.R (xch k r k) c)=t.S r*s.R r c:=by rw [xk,if_neg (by omega)]
  have hSr:=h.scale r hk
  have hpne:t.S r*s.R r c≠0:=by
   intro e
   rcases Rat.mul_eq_zero.1 e with e|e
   ·exact hSr e
   ·exact hne e
  have E3:=E2.step (j:=c) hkn hc hlast (by show (if xch k r k<k then _ else _)≠0;rw [hp0];exact hpne)
  have hDn:=E2.next (j:=c) hkn hc hlast
  have hD1:dp (fun i=>B (xch k r i)) (fun m=>(s.cs++[c]).getD m 0) k=(t.last:Rat):=by
   rw [hD,<- B04 hcs1,B3o B _ hlen.1]
  rw [hD1] at hDn
  have hpv:(if xch k r k<k then s.R (xch k r k) c else t.S (xch k r k)*s.R (xch k r k) c)=t.S r*s.R r c:=hp0
  have hnl:(t.M r c:Rat)=t.last*(t.S r*s.R r c):=by
   have:=h.val r c hk hc
   rw [if_neg (by omega)] at this;exact this
  have hDn':dp (fun i=>B (xch k r i)) (fun m=>(s.cs++[c]).getD m 0) (k+1)=(t.M r c:Rat):=by
   rw [hDn,hnl]
   show (t.last:Rat)*(if xch k r k<k then s.R (xch k r k) c else t.S (xch k r k)*s.R (xch k r k) c)=_
   rw [hpv]
  have hlne:=T3 h.last
  have hMne:t.M r c≠0:=by
   intro e
   rw [e] at hnl
   have h0:((0:Int):Rat)=0:=rfl
   rw [h0] at hnl
   rcases Rat.mul_eq_zero.1 hnl.symm with e1|e1
   ·exact hlne e1
   ·exact hpne e1
  have hz:∀ b,b<c->s.R r b=0:=fun b hb=>h.zero r b hk (by omega) hb
  have hQ:∀ i j,(if i<k+1 then Hb (fun i=>s.R (xch k r i)) k c i j else t.S (xch k r i)*Hb (fun i=>s.R (xch k r i)) k c i j)=Cp (fun i j=>if xch k r i<k then s.R (xch k r i) j else t.S (xch k r i)*s.R (xch k r i) j) k c i j:=by
   intro i j
   unfold Hb Cp
   by_cases e:i=k
   ·subst e
    simp only [if_true,xk,if_neg (show ¬ r<i by omega),if_pos (show i<i+1 by omega)]
    grind
   ·have hb:s.R r j=0\/¬ j<c:=by
     by_cases hj:j<c
     ·exact .inl (hz j hj)
     ·exact .inr hj
    simp only [if_neg e,xk,if_neg (show ¬ r<k by omega)]
    by_cases hi:i<k
    ·rw [if_pos (show i<k+1 by omega),Wf hlen.1 hi,if_pos hi,if_pos hi]
     split
     ·rename_i h1
      rcases h1 with h1|h1
      ·rw [h1];grind
      ·rw [hz j h1];grind
     ·grind
    ·have hx:¬ xch k r i<k:=by have:=B11 (i:=i) hlen.1 (by omega);omega
     rw [if_neg (show ¬ i<k+1 by omega),if_neg hx,if_neg hx]
     split
     ·rename_i h1
      rcases h1 with h1|h1
      ·rw [h1];grind
      ·rw [hz j h1];grind
     ·grind
  have hQf:(fun i j=>if i<k+1 then Hb (fun i=>s.R (xch k r i)) k c i j else t.S (xch k r i)*Hb (fun i=>s.R (xch k r i)) k c i j)=Cp (fun i j=>if xch k r i<k then s.R (xch k r i) j else t.S (xch k r i)*s.R (xch k r i) j) k c:=by
   funext i j;exact hQ i j
  have hxn:∀ i,i<n->xch k r i<n:=fun i hi=>A4o hkn hk hi
  refine ⟨rfl,⟨fun i=>B (xch k r i),fun i j hi hj=>hB _ j (hxn i hi) hj,?_,?_⟩,hMne,fun i j hi hj=>?_,fun i hi=>h.scale _ (hxn i hi),fun i j hi hki hj=>?_,?_,fun he=>?_,fun he _=>?_,?_⟩
  ·show Elim n w _ (fun i j=>if i<(s.cs++[c]).length then Hb (fun i=>s.R (xch k r i)) k c i j else t.S (xch k r i)*Hb (fun i=>s.R (xch k r i)) k c i j) _ (s.cs++[c]).length
   rw [hlen',hQf]
   exact E3
  ·show (t.M r c:Rat)=dp _ _ (s.cs++[c]).length
   rw [hlen',hDn']
  ·show (clr (fun i=>t.M (xch k r i)) k c t.last i j:Rat)=(t.M r c:Rat)*(if i<(s.cs++[c]).length then Hb (fun i=>s.R (xch k r i)) k c i j else t.S (xch k r i)*Hb (fun i=>s.R (xch k r i)) k c i j)
   rw [hlen',hQ i j]
   unfold clr
   by_cases e:i=k
   ·subst e
    rw [if_pos rfl]
    show (t.M (xch i r i) j:Rat)=_
    rw [xk]
    unfold Cp
    simp only [if_true,xk,if_neg (show ¬ r<i by omega)]
    have:=h.val r j hk hj
    rw [if_neg (by omega)] at this
    rw [this,hnl]
    grind
   ·rw [if_neg e]
    show (((t.M (xch k r k) c*t.M (xch k r i) j-t.M (xch k r i) c*t.M (xch k r k) j).tdiv t.last:Int):Rat)=_
    rw [xk]
    have hw:=E3.whole (fun i j hi hj=>hB _ j (hxn i hi) hj) hi hj
    rw [hDn'] at hw
    obtain ⟨z,hz'⟩:=hw
    have v1:=h.val (xch k r i) j (hxn i hi) hj
    have v2:=h.val (xch k r i) c (hxn i hi) hc
    have v3:=h.val r j hk hj
    rw [hl] at v1 v2 v3
    rw [if_neg (show ¬ r<k by omega)] at v3
    have hx:t.M r c*t.M (xch k r i) j-t.M (xch k r i) c*t.M r j=t.last*z:=by
     have:((t.M r c*t.M (xch k r i) j-t.M (xch k r i) c*t.M r j:Int):Rat)=((t.last*z:Int):Rat):=by
      rw [Rat.intCast_sub,Rat.intCast_mul,Rat.intCast_mul,Rat.intCast_mul,<- hz',v1,v2,v3,hnl]
      unfold Cp
      simp only [if_neg e,xk,if_neg (show ¬ r<k by omega)]
      generalize (if xch k r i<k then s.R (xch k r i) j else t.S (xch k r i)*s.R (xch k r i) j)=u1
      generalize (if xch k r i<k then s.R (xch k r i) c else t.S (xch k r i)*s.R (xch k r i) c)=u2
      have h1:t.S r*s.R r j/(t.S r*s.R r c)*(t.S r*s.R r c)=t.S r*s.R r j:=by
       rw [Rat.div_mul_cancel hpne]
      grind
     exact_mod_cast this
    rw [Zv h.last hx,<- hz']
  ·show Hb (fun i=>s.R (xch k r i)) k c i j=0
   have hki':k+1<=i:=by
    have:(s.cs++[c]).length<=i:=hki
    omega
   have hge:=B11 (i:=i) hlen.1 (show k<=i by omega)
   unfold Hb
   rw [if_neg (by omega)]
   simp only [xk]
   by_cases e:j=c
   ·subst e
    split
    ·rename_i h1
     rcases h1 with h1|h1
     ·exact h1
     ·omega
    ·grind
   ·rw [if_pos (.inr (by omega))]
    exact h.zero _ j (hxn i hi) (by omega) (by omega)
  ·show (s.cs++[c]).length<=c+1
   have:=h.asc
   omega
  ·show (if r=k then s.det else -s.det)*s.R r c*pr (s.cs++[c]).length (fun i=>t.S (xch k r i))=((if r=k then t.sgn else -t.sgn:Int):Rat)*(t.M r c:Rat)
   have hkc:k=c:=by
    have:(s.cs++[c]).length=c+1:=he
    omega
   have hd:=h.det (by omega)
   rw [hl] at hd
   rw [hlen',pr,xk,A9k (g:=t.S) fun i hi=>by rw [Wf hlen.1 hi],hnl]
   by_cases e:r=k
   ·rw [if_pos e,if_pos e];grind
   ·rw [if_neg e,if_neg e,Rat.intCast_neg];grind
  ·show (if r=k then s.det else -s.det)*s.R r c=0
   have:(s.cs++[c]).length<c+1:=he
   have hd:=h.miss (by omega) (by omega)
   rw [hd]
   split<;>grind
  ·show (if r=k then t.sgn else -t.sgn)=1\/(if r=k then t.sgn else -t.sgn)= -1
   have:=h.sgn
   split<;>omega
 ·rw [if_neg hk,if_neg hk]
  have hall:∀ i,i<n->s.cs.length<=i->s.R i c=0:=by
   intro i hi hki
   have:=hmiss i hki (by omega)
   simpa using this
  have hzero:∀ i j,i<n->s.cs.length<=i->j<c+1->s.R i j=0:=by
   intro i j hi hki hj
   by_cases e:j=c
   ·rw [e];exact hall i hi hki
   ·exact h.zero i j hi hki (by omega)
  by_cases hkn:s.cs.length<n
  ·rw [if_pos hkn]
   exact ⟨h.cs,⟨B,hB,E,hD⟩,h.last,h.val,h.scale,hzero,Nat.le_succ_of_le h.asc,fun he=>by have:=h.asc;have:s.cs.length=c+1:=he;omega,fun _ _=>rfl,h.sgn⟩
  ·rw [if_neg hkn]
   exact ⟨h.cs,⟨B,hB,E,hD⟩,h.last,h.val,h.scale,hzero,Nat.le_succ_of_le h.asc,fun he=>by have:=h.asc;omega,fun _ hx=>absurd hx hkn,h.sgn⟩
theorem ERel.run{n w:Nat}{A:Nat->Nat->Rat}{s:ES}{t:PS}(h:ERel n w 0 A s t):∀ c,c<=w->ERel n w c A (B53 n s c) (B6p n t c):=by
 intro c
 induction c with
 | zero=>exact fun _=>h
 | succ c ih=>exact fun hc=>(ih (by omega)).step (by omega)
end Go.Proofs.YtajkakhfcokljaaGreatDoor
namespace Go.Proofs.YtajkakhfcokljaaGreatDoor
set_option maxRecDepth 20000
structure SzE (n w m:Nat) (s:ES):Prop where
 R:∀ a b,a<n->b<w->Sz (7^s.cs.length*m) (s.R a b)
 det:Sz (7^s.cs.length*m) s.det
 len:s.cs.length<=n
theorem B0k{m:Nat}{x d:Int}(h:ZB m x):ZB m (x.tdiv d):=by
 refine h.le ?_
 rw [Int.natAbs_tdiv]
 exact Nat.div_le_self _ _
theorem ZB.clr{n w k j m:Nat}{M:Nat->Nat->Int}{d:Int}(hM:∀ a b,a<n->b<w->ZB m (M a b))(hk:k<n)(hj:j<w){a b:Nat}(ha:a<n)(hb:b<w):ZB (2*m+1) (clr M k j d a b):=by
 unfold Go.Proofs.YtajkakhfcokljaaGreatDoor.clr
 split
 ·exact (hM k b hk hb).mono (by omega)
 ·refine B0k ?_
  have h1:=(hM k j hk hj).mul (hM a b ha hb)
  have h2:=(hM a j ha hj).mul (hM k b hk hb)
  exact (h1.sub h2).mono (by omega)
theorem B2x(n c:Nat)(s:PS)(h:s.cs.length<=n):s.cs.length<=A37 n c s/\A37 n c s<=n:=by
 have:=A6h (fun i=>decide (s.M i c≠0)) (n-s.cs.length) s.cs.length
 unfold A37
 omega
structure ZbP (n w m l:Nat) (s:PS):Prop where
 M:∀ a b,a<n->b<w->ZB (3^s.cs.length*m) (s.M a b)
 last:ZB (3^s.cs.length*m) s.last
 S:∀ a,a<n->Sz l (s.S a)
 len:s.cs.length<=n
theorem A9l(k m:Nat)(hm:1<=m):1<=3^k*m:=by
 have:0<3^k:=Nat.pow_pos (by decide)
 exact Nat.mul_pos this hm
theorem ZbP.step{n w m l c:Nat}{s:PS}(h:ZbP n w m l s)(hm:1<=m)(hc:c<w):ZbP n w m l (Tu n c s):=by
 have hr:=B2x n c s h.len
 have h1:=A9l s.cs.length m hm
 unfold Tu
 by_cases hx:A37 n c s<n
 ·rw [if_pos hx]
  have hk:s.cs.length<n:=by omega
  have e:(s.cs++[c]).length=s.cs.length+1:=by simp
  have e3:3^(s.cs.length+1)*m=3*(3^s.cs.length*m):=by rw [Nat.pow_succ,Nat.mul_comm (3^s.cs.length) 3,Nat.mul_assoc]
  refine ⟨fun a b ha hb=>?_,?_,fun a ha=>h.S _ (A4o hk hx ha),?_⟩
  ·show ZB (3^(s.cs++[c]).length*m) _
   rw [e,e3]
   exact (ZB.clr (n:=n) (w:=w) (fun a b ha hb=>h.M _ b (A4o hk hx ha) hb) hk hc ha hb).mono (by omega)
  ·show ZB (3^(s.cs++[c]).length*m) (s.M (A37 n c s) c)
   rw [e,e3]
   exact (h.M _ c hx hc).mono (by omega)
  ·show (s.cs++[c]).length<=n
   omega
 ·rw [if_neg hx];exact h
theorem ZbP.run{n w m l:Nat}{s:PS}(h:ZbP n w m l s)(hm:1<=m):∀ c,c<=w->ZbP n w m l (B6p n s c):=by
 intro c
 induction c with
 | zero=>exact fun _=>h
 | succ c ih=>exact fun hc=>(ih (by omega)).step hm (by omega)
structure Asc (l:List Nat) (c:Nat):Prop where
 lt:∀ x∈l,x<c
 asc:l.Pairwise (· < ·)
theorem Re(z:Int)(l:List Value):iAt (I z::l) 0=z:=rfl
theorem A32:Tryz.prog.cellsOf Cd=4/\(Tryz.prog.info? Cd).isSome=true:=A57
theorem A56:Tryz.prog.cellsOf G0=4/\(Tryz.prog.info? G0).isSome=true:=A1r
section
variable {α β:Type} [E:Enc α] {R:Heap->α->β->Prop}
def OwnK(R:Heap->α->β->Prop)(h h':Heap)(b n k:Nat)(f:Nat->β):Prop:=∃ g o xs,h.le g/\Sep h' g o/\RowX o b xs/\xs.length=n/\Row R g xs k f
theorem OwnK.own{h h':Heap}{b n:Nat}{f:Nat->β}(w:OwnK R h h' b n n f):Own R h h' b n f:=⟨w⟩
theorem OwnK.le{h h':Heap}{b n k:Nat}{f:Nat->β}(w:OwnK R h h' b n k f):h.le h':=by
 obtain ⟨g,o,xs,l,s,_⟩:=w
 exact A0 l s.le
theorem OwnK.zero{h:Heap}{b n:Nat}{f:Nat->β}{e:TypeId}{z:α}(hb:h b=none):OwnK R h (B0b e h b (List.replicate n z)) b n 0 f:=
 ⟨h,Xf.put b (.cells ((List.replicate n z).flatMap enc).toArray e),List.replicate n z,B3 _,A46 hb,RowX.mk,by simp,Row.nil⟩
theorem OwnK.store(m:Mon R){P:Program}{t:TypeId}(one:P.cellsOf t=E.default.size/\(P.info? t).isSome=true){h h' g g' o:Heap}{b n k:Nat}{f:Nat->β}{xs:List α}(lg:h.le g)(lg':g.le g')(s:Sep h' g' o)(rb:RowX o b xs)(hn:xs.length=n)(r:Row R g xs k f)(hk:k<n){v:Value}{y:α}(hv:v.cells=(enc y).toArray)(hy:R g' y (f k)){K:Unit->Heap->Prop}
 (x:∀ h2,OwnK R h h2 b n (k+1) f->K () h2):wpH P (Instr.storeAt t (.pointer (some (Addr.add ⟨b,0,none⟩ (k*E.default.size)))) v) K h':=by
 refine Sv one hv s rb (by omega) ?_
 intro h2 o' x' e s2 r2
 exact x h2 ⟨g',o',_,A0 lg lg',s2,r2,by simpa using hn,(r.mono m lg').set (by omega) hy⟩
end
def Et:QV:=⟨false,none,0,0,false,none,0,0⟩
section
variable {h:Heap} {K:Value->Heap->Prop} {A:Option Addr} {n c m:Nat} {ls:Nat->List UInt8} {f:Nat->Rat} {a w:QV} {q:Rat}
theorem Xa(gl:Gl h)(r:RowV SSr h A n ls)(hn:n<=1000000)(hl:∀ i,i<n->(ls i).length<=100000000)
 (hK1:(∀ i,i<n->IsNum (ls i))->∀ b h',Own RQr h h' b n (fun i=>rv (ls i))->K (.tuple #[.slice (some ⟨b,0,none⟩) n n,.bool true]) h')
 (hK0:¬ (∀ i,i<n->IsNum (ls i))->∀ h',h.le h'->K (.tuple #[.slice none 0 0,.bool false]) h'):FCall Tryz.prog Lg #[.slice A n c] h K:=by
 refine A1a _ _ _ ?_
 unfold A2n
 refine Dn B4x (zx:=Et) rfl (by omega) (by omega) (by omega) (by omega) ?_
 intro b hb
 refine ⟨_,_,_,rfl,fun L hp=>∃ k:Nat,k<=n/\L=[I k]/\(∀ i,i<k->IsNum (ls i))/\OwnK RQr h hp b n k (fun i=>rv (ls i)),fun L _=>n-(iAt L 0).toNat,⟨0,by omega,rfl,fun i hi=>by omega,OwnK.zero hb⟩,?_⟩
 rintro t hp ⟨k,hk,eL,hnum,g,o,xs,lg,s,rb,hx,rr⟩
 obtain rfl:t=(k:Int):=by simpa using eL
 refine B6 (fun hlt=>?_) (fun hge=>?_)
 ·have hkn:k<n:=by omega
  obtain ⟨a,rfl,hc⟩:=(r.mono Ky (A0 lg s.le)).sat hkn
  refine ⟨a,rfl,by omega,by omega,_,hc,?_⟩
  refine s.call (A3a (gl.mono lg).tz (hl k hkn) ?_ ?_)
  ·intro q e w g' l' iw h2 s2
   refine ⟨_,_,_,_,_,_,_,_,_,rfl,_,rfl,by omega,by simpa using hlt,?_⟩
   refine OwnK.store Z2 A56 (y:=w) lg l' s2 rb hx rr hkn rfl (by show RQ g' w (rv (ls k));rw [e,Wx];exact iw) ?_
   intro h3 ow
   rw [show B4 ((k:Int)+1)=((k+1:Nat):Int) by rw [B5]<;>omega]
   refine ⟨⟨k+1,by omega,rfl,fun i hi=>?_,ow⟩,?_⟩
   ·by_cases e':i=k
    ·subst e';exact ⟨q,e⟩
    ·exact hnum i (by omega)
   ·simp only [Re];omega
  ·intro hno w g' l' _ h2 s2
   exact ⟨_,_,_,_,_,_,_,_,_,rfl,hK0 (fun hall=>hno (hall k hkn)) h2 (A0 lg (A0 l' s2.le))⟩
 ·have:k=n:=by omega
  subst this
  exact hK1 hnum b hp ⟨g,o,xs,lg,s,rb,hx,rr⟩
theorem Ff(gl:Gl h)(r:RowV RQr h A n f)(hn:n<=1000000)(hs:∀ i,i<n->Sz m (f i))(hm:m<=40000000)
 (hK:∀ b h',Own SSr h h' b n (fun i=>N5 (f i))->K (.slice (some ⟨b,0,none⟩) n n) h'):FCall Tryz.prog Cm #[.slice A n c] h K:=by
 refine A19 _ _ _ ?_
 unfold A2m
 refine Dn Iq (zx:=([]:List UInt8)) rfl (by omega) (by omega) (by omega) (by omega) ?_
 intro b hb
 refine ⟨_,_,_,rfl,fun L hp=>∃ k:Nat,k<=n/\L=[I k]/\OwnK SSr h hp b n k (fun i=>N5 (f i)),fun L _=>n-(iAt L 0).toNat,⟨0,by omega,rfl,OwnK.zero hb⟩,?_⟩
 rintro t hp ⟨k,hk,eL,g,o,xs,lg,s,rb,hx,rr⟩
 obtain rfl:t=(k:Int):=by simpa using eL
 refine B6 (fun hlt=>?_) (fun hge=>?_)
 ·have hkn:k<n:=by omega
  obtain ⟨a,w,rfl,iw,d0,d1,d2,d3⟩:=(r.mono Z2 lg).qat hkn
  refine ⟨_,rfl,by omega,by omega,_,_,_,_,_,_,_,_,D5 s.le d0,D5 s.le d1,D5 s.le d2,D5 s.le d3,?_⟩
  refine s.call (Wy (gl.mono lg).p10 iw (hs k hkn) hm ?_)
  intro h2 s2
  refine ⟨_,rfl,_,rfl,by omega,by simpa using hlt,?_⟩
  refine OwnK.store Ky Wt (y:=N5 (f k)) lg (B3 _) s2 rb hx rr hkn rfl rfl ?_
  intro h3 ow
  rw [show B4 ((k:Int)+1)=((k+1:Nat):Int) by rw [B5]<;>omega]
  exact ⟨⟨k+1,by omega,rfl,ow⟩,by simp only [Re];omega⟩
 ·have:k=n:=by omega
  subst this
  exact hK b hp ⟨g,o,xs,lg,s,rb,hx,rr⟩
theorem A5w(r:RowV SSr h A n ls)(hn:n<=1000000)(hl:∀ i,i<n->(ls i).length<=100000000)
 (hK1:(∀ i,i<n->IsNum (ls i))->∀ b h',Own NQr h h' b n (fun i=>rv (ls i))->K (.tuple #[.slice (some ⟨b,0,none⟩) n n,.bool true]) h')
 (hK0:¬ (∀ i,i<n->IsNum (ls i))->∀ h',h.le h'->K (.tuple #[.slice none 0 0,.bool false]) h'):FCall Tryz.prog A0q #[.slice A n c] h K:=by
 refine B0u _ _ _ ?_
 unfold B6d
 refine Dn B7l (zx:=Et) rfl (by omega) (by omega) (by omega) (by omega) ?_
 intro b hb
 refine ⟨_,_,_,rfl,fun L hp=>∃ k:Nat,k<=n/\L=[I k]/\(∀ i,i<k->IsNum (ls i))/\OwnK NQr h hp b n k (fun i=>rv (ls i)),fun L _=>n-(iAt L 0).toNat,⟨0,by omega,rfl,fun i hi=>by omega,OwnK.zero hb⟩,?_⟩
 rintro t hp ⟨k,hk,eL,hnum,g,o,xs,lg,s,rb,hx,rr⟩
 obtain rfl:t=(k:Int):=by simpa using eL
 refine B6 (fun hlt=>?_) (fun hge=>?_)
 ·have hkn:k<n:=by omega
  obtain ⟨a,rfl,hc⟩:=(r.mono Ky (A0 lg s.le)).sat hkn
  refine ⟨a,rfl,by omega,by omega,_,hc,?_⟩
  refine s.call (A5h (hl k hkn) ?_ ?_)
  ·intro q e w g' l' iw h2 s2
   refine ⟨_,_,_,_,_,_,_,_,_,rfl,_,rfl,by omega,by simpa using hlt,?_⟩
   refine OwnK.store A0f A32 (y:=w) lg l' s2 rb hx rr hkn rfl (by show NQ g' w (rv (ls k));rw [e,Wx];exact iw) ?_
   intro h3 ow
   rw [show B4 ((k:Int)+1)=((k+1:Nat):Int) by rw [B5]<;>omega]
   refine ⟨⟨k+1,by omega,rfl,fun i hi=>?_,ow⟩,?_⟩
   ·by_cases e':i=k
    ·subst e';exact ⟨q,e⟩
    ·exact hnum i (by omega)
   ·simp only [Re];omega
  ·intro hno w g' l' h2 s2
   exact ⟨_,_,_,_,_,_,_,_,_,rfl,hK0 (fun hall=>hno (hall k hkn)) h2 (A0 lg (A0 l' s2.le))⟩
 ·have:k=n:=by omega
  subst this
  exact hK1 hnum b hp ⟨g,o,xs,lg,s,rb,hx,rr⟩
def Ra(f:Nat->Rat):Nat->Nat
 | 0=>1
 | n+1=>Nat.lcm (Ra f n) (f n).den
theorem A9s(f:Nat->Rat):∀ n,0<Ra f n:=by
 intro n
 induction n with
 | zero=>exact Nat.one_pos
 | succ n ih=>exact Nat.lcm_pos ih (f n).den_pos
theorem A9t(f:Nat->Rat):∀ n i,i<n->(f i).den∣Ra f n:=by
 intro n
 induction n with
 | zero=>intro i h;omega
 | succ n ih=>
  intro i hi
  by_cases e:i=n
  ·subst e;exact Nat.dvd_lcm_right _ _
  ·exact Nat.dvd_trans (ih i (by omega)) (Nat.dvd_lcm_left _ _)
theorem ZB.lcm{k j:Nat}{x y:Nat}(hx:ZB k (x:Int))(hy:ZB j (y:Int)):ZB (k+j) ((Nat.lcm x y:Nat):Int):=by
 have:=hx.mul hy
 unfold ZB at *
 rw [Int.natAbs_natCast]
 rw [Int.natAbs_mul,Int.natAbs_natCast,Int.natAbs_natCast] at this
 refine Nat.lt_of_le_of_lt ?_ this
 unfold Nat.lcm
 exact Nat.div_le_self _ _
theorem Uj{f:Nat->Rat}{m:Nat}: ∀ n,(∀ i,i<n->Sz m (f i))->ZB (1+n*m) (Ra f n:Int):=by
 intro n
 induction n with
 | zero=>intro _;exact ZB.one (by omega)
 | succ n ih=>
  intro h
  have:=(ih fun i hi=>h i (by omega)).lcm (h n (by omega)).den
  exact this.mono (by rw [Nat.add_mul,Nat.one_mul];omega)
theorem Rj(gl:Gl h)(r:RowV RQr h A n f)(hn:n<=1000000)(hs:∀ i,i<n->Sz m (f i))(hm:1+n*m+m<=6400000000)
 (hK:∀ s A' n' c' h',h.le h'->ZI h' s A' n' c' (Ra f n:Int)->K (.agg #[.bool s,.slice A' n' c']) h'):FCall Tryz.prog Q0 #[.slice A n c] h K:=by
 refine Gh _ _ _ ?_
 unfold Bp
 refine Ev (by omega) (by omega) ?_
 intro s1 A1 n1 c1 h1 l1 i1
 refine ⟨_,_,_,_,rfl,fun L hp=>∃ (k:Nat) (s:Bool) (B:Option Addr) (bn bc:Nat),k<=n/\L=[I k,.bool s,.slice B bn bc]/\h.le hp/\ZI hp s B bn bc (Ra f k:Int),fun L _=>n-(iAt L 0).toNat,⟨0,_,_,_,_,by omega,rfl,l1,i1⟩,?_⟩
 rintro t s B bn bc hp ⟨k,s',B',bn',bc',hk,eL,l,i⟩
 simp only [List.cons.injEq,Value.int.injEq,Value.bool.injEq,Value.slice.injEq,true_and,and_true] at eL
 obtain ⟨rfl,rfl,rfl,rfl,rfl⟩:=eL
 have ew:B4 ((k:Int)+1)=((k+1:Nat):Int):=by rw [B5]<;>omega
 refine B6 (fun hlt=>?_) (fun hge=>?_)
 ·have hkn:k<n:=by omega
  obtain ⟨a,w,rfl,iw,d0,d1,d2,d3⟩:=(r.mono Z2 l).qat hkn
  have hmk:1+k*m<=6400000000:=by
   have:k*m<=n*m:=Nat.mul_le_mul_right _ (by omega)
   omega
  have hmk2:1+k*m+m<=6400000000:=by
   have:k*m<=n*m:=Nat.mul_le_mul_right _ (by omega)
   omega
  have bz:=(Uj k fun i hi=>hs i (by omega)).mono (show 1+k*m<=1+k*m+m by omega)
  have bd:=(hs k hkn).den.mono (show m<=1+k*m+m by omega)
  refine ⟨_,rfl,by omega,by omega,_,_,_,_,_,_,_,_,d0,d1,d2,d3,?_⟩
  refine F5 iw.den ⟨_,rfl,?_⟩
  have hd0:((if (f k).den=1 then 0 else ((f k).den:Int))=0)↔(f k).den=1:=by
   have:=(f k).den_pos
   split<;>omega
  have same:Ra f (k+1)=Ra f k->(∃ (k':Nat) (s':Bool) (B':Option Addr) (bn' bc':Nat),k'<=n/\[I (B4 ((k:Int)+1)),.bool s,.slice B bn bc]=[I k',.bool s',.slice B' bn' bc']/\h.le hp/\ZI hp s' B' bn' bc' (Ra f k':Int))/\n-(iAt [I (B4 ((k:Int)+1)),.bool s,.slice B bn bc] 0).toNat<n-(iAt [I (k:Int),.bool s,.slice B bn bc] 0).toNat:=by
   intro e
   rw [ew]
   exact ⟨⟨k+1,_,_,_,_,by omega,rfl,l,by rw [e];exact i⟩,by simp only [Re];omega⟩
  refine Bc (B6 (fun h1=>?_) (fun h1=>?_))
  ·have e1:=hd0.1 h1
   exact same (by rw [Ra,e1];exact Nat.lcm_one_right _)
  ·have e1:(if (f k).den=1 then 0 else ((f k).den:Int))=((f k).den:Int):=if_neg fun e=>h1 (hd0.2 e)
   have iden:=iw.den
   rw [e1] at iden
   refine Zm iden i bd hmk2 ⟨_,rfl,?_⟩
   refine Bc (B6 (fun h2=>?_) (fun h2=>?_))
   ·have e2:(f k).den=Ra f k:=by exact_mod_cast h2
    exact same (by rw [Ra,e2];exact Nat.lcm_self _)
   ·refine A4m (gl.mono l).tz i iden bz bd hmk2 ?_
    intro A' n' c' h' l' i'
    refine ⟨_,_,_,_,rfl,?_⟩
    rw [ew]
    refine ⟨⟨k+1,_,_,_,_,by omega,rfl,A0 l l',?_⟩,by simp only [Re];omega⟩
    have:Int.lcm (Ra f k:Int) ((f k).den:Int)=Ra f (k+1):=by simp [Int.lcm,Ra]
    rw [this] at i';exact i'
 ·have:k=n:=by omega
  subst this
  exact hK _ _ _ _ hp l i
def scl(q:Rat)(d:Int):Int:=q.num*d.tdiv q.den
theorem B35(q:Rat):q*(q.den:Rat)=(q.num:Rat):=by
 have h:=Rat.num_divInt_den q
 rw [Rat.divInt_eq_div] at h
 have hd:((q.den:Int):Rat)≠0:=T3 (den_ne q)
 have e:((q.den:Int):Rat)=(q.den:Rat):=rfl
 rw [<- e]
 calc q*((q.den:Int):Rat)=(q.num:Rat)/((q.den:Int):Rat)*((q.den:Int):Rat):=by rw [h]
  _=q.num:=Rat.div_mul_cancel hd
theorem B51{q:Rat}{d:Int}(h:(q.den:Int)∣d):(scl q d:Rat)=q*d:=by
 obtain ⟨e,rfl⟩:=h
 unfold scl
 rw [Int.mul_tdiv_cancel_left _ (den_ne q),Rat.intCast_mul,Rat.intCast_mul]
 have h1:q*(q.den:Rat)=(q.num:Rat):=B35 q
 have h2:(((q.den:Nat):Int):Rat)=(q.den:Rat):=rfl
 rw [h2,<- h1,Rat.mul_assoc]
theorem B50{q:Rat}{d:Int}{k:Nat}(hq:Sz m q)(hd:ZB k d):ZB (m+k) (scl q d):=hq.num.mul hd.tdiv
theorem A03{s:Bool}{B:Option Addr}{bn bc:Nat}{d:Int}(i:RQ h w q)(j:ZI h s B bn bc d)(hq:Sz m q)(hd:ZB m d)(hm:m<=6400000000)
 (hK:∀ s A' n' c' h',h.le h'->ZI h' s A' n' c' (scl q d)->K (.agg #[.bool s,.slice A' n' c']) h'):FCall Tryz.prog Ph #[w.v,.agg #[.bool s,.slice B bn bc]] h K:=by
 refine A48 _ _ _ _ _ _ _ _ _ _ _ _ ?_
 unfold A80
 refine F5 i.den ⟨_,rfl,?_⟩
 have hd0:((if q.den=1 then 0 else (q.den:Int))=0)↔q.den=1:=by
  have:=q.den_pos
  split<;>omega
 refine B6 (fun h1=>?_) (fun h1=>?_)
 ·have e1:=hd0.1 h1
  refine N9 i.num j hq.num hd hm ?_
  intro s1 A' n' c' h' l' i'
  refine ⟨_,_,_,_,rfl,hK _ _ _ _ _ l' ?_⟩
  have:scl q d=q.num*d:=by unfold scl;rw [e1];simp
  rw [this];exact i'
 ·have e1:(if q.den=1 then 0 else (q.den:Int))=(q.den:Int):=if_neg fun e=>h1 (hd0.2 e)
  have iden:=i.den
  rw [e1] at iden
  refine N8 j iden hd hq.den hm (den_ne q) ?_
  intro s1 A1 n1 c1 h1' l1 i1
  refine ⟨_,_,_,_,rfl,l1,?_⟩
  refine N9 (i.num.mono l1) i1 hq.num hd.tdiv hm ?_
  intro s2 A2 n2 c2 h2 l2 i2
  exact ⟨_,_,_,_,rfl,l2,hK _ _ _ _ _ (A0 l1 l2) i2⟩
end
instance:Enc Int:=⟨⟨fun z=>[I z],1,fun _=>rfl,fun z v hv=>by rw [List.mem_singleton.1 hv];rfl⟩⟩
abbrev IIr:Heap->Int->Int->Prop:=fun _ w z=>w=z
section
variable {α:Type} [E:Enc α]
def OwnSl(o:Heap)(e:TypeId)(A:Option Addr)(c:Nat)(xs:List α):Prop:=
 xs.length<=c/\((c=0/\A=none)\/∃ b arr,A=some ⟨b,0,none⟩/\o b=some (.cells (List.toArray arr) e)/\arr.length=c*E.default.size/\arr.take (xs.length*E.default.size)=xs.flatMap enc)
theorem OwnSl.nil{o:Heap}{e:TypeId}:OwnSl o e none 0 ([]:List α):=⟨Nat.le_refl _,.inl ⟨rfl,rfl⟩⟩
theorem OwnSl.keep{o o':Heap}{e:TypeId}{A:Option Addr}{c:Nat}{xs:List α}(w:OwnSl o e A c xs)(h:∀ b x,A=some ⟨b,0,none⟩->o b=some x->o' b=some x):OwnSl o' e A c xs:=by
 refine ⟨w.1,?_⟩
 rcases w.2 with h0|⟨b,arr,hA,hb,h1,h2⟩
 ·exact .inl h0
 ·exact .inr ⟨b,arr,hA,h b _ hA hb,h1,h2⟩
theorem OwnSl.rowB{o:Heap}{e:TypeId}{A:Option Addr}{c:Nat}{xs:List α}(w:OwnSl o e A c xs)(hne:xs≠[]):∃ b,A=some ⟨b,0,none⟩/\RowB o b xs:=by
 rcases w.2 with h0|⟨b,arr,hA,hb,h1,h2⟩
 ·exfalso
  have:=w.1
  have:=h0.1
  have:xs.length≠0:=fun h=>hne (List.eq_nil_of_length_eq_zero h)
  omega
 ·exact ⟨b,hA,e,arr.drop (xs.length*E.default.size),by rw [hb,<- h2,List.take_append_drop]⟩
theorem OwnSl.slF{o h:Heap}{e:TypeId}{A:Option Addr}{c:Nat}{xs:List α}(w:OwnSl o e A c xs)(hl:o.le h):SlF h A xs:=by
 by_cases hne:xs=[]
 ·rw [hne];exact SlF.nil
 ·obtain ⟨b,rfl,r⟩:=w.rowB hne
  exact r.slF hl
theorem OwnSl.priv{h g o:Heap}{e:TypeId}{A:Option Addr}{c:Nat}{xs:List α}(s:Sep h g o)(w:OwnSl o e A c xs):∃ gb,PrivF h gb e A c xs/\∀ k x,h k=some x->A≠some ⟨k,0,none⟩->gb k=some x:=by
 rcases w.2 with ⟨h0,h00⟩|⟨b,arr,hA,hb,h1,h2⟩
 ·subst h0
  have hx:xs=[]:=List.eq_nil_of_length_eq_zero (by have:=w.1;omega)
  subst hx
  exact ⟨h,PrivF.nil h e A,fun k x e _=>e⟩
 ·refine ⟨h.without b,⟨K0 xs,w.1,.inr ⟨b,arr,hA,Dc _ _,(J8 (s.own b _ hb)).symm,h1,h2⟩⟩,fun k x e hne=>?_⟩
  unfold Heap.without
  rw [if_neg]
  ·exact e
  ·rintro rfl;exact hne hA
end
structure Tb where
 bt:Nat
 bE:Nat
 bS:Nat
 rows:Nat
 cols:Nat
 cE:Nat
 cS:Nat
structure Tab (h g o:Heap) (T:Tb) (M:Nat->Nat->Int) (S:Nat->Rat):Prop where
 sep:Sep h g o
 n1:T.bt≠T.bE
 n2:T.bt≠T.bS
 n3:T.bE≠T.bS
 head:∃ e,o T.bt=some (.cells #[I T.cols,.slice (some ⟨T.bE,0,none⟩) (T.rows*T.cols) T.cE,.slice (some ⟨T.bS,0,none⟩) T.rows T.cS] e)
 elems:∃ ws:List IV,RowB o T.bE ws/\ws.length=T.rows*T.cols/\∀ i j,i<T.rows->j<T.cols->∃ w,ws[i*T.cols+j]? = some w/\ZIr g w (M i j)
 scales:∃ ss:List QV,RowB o T.bS ss/\ss.length=T.rows/\Row RQr g ss T.rows S
 cE:T.rows*T.cols<=T.cE
 cS:T.rows<=T.cS
 small:T.rows<=10000/\T.cols<=10000
 pos:0<T.cols
def B8h(M:Nat->Nat->Int)(i j:Nat)(z:Int):Nat->Nat->Int:=fun a b=>if a=i/\b=j then z else M a b
theorem S7{rows cols i j:Nat}(hi:i<rows)(hj:j<cols):i*cols+j<rows*cols:=by
 have:(i+1)*cols<=rows*cols:=Nat.mul_le_mul_right _ hi
 rw [Nat.add_mul,Nat.one_mul] at this
 omega
theorem B39{cols i j i' j':Nat}(hj:j<cols)(hj':j'<cols)(h:i*cols+j=i'*cols+j'):i=i'/\j=j':=by
 have h1:(i*cols+j)/cols=i:=by rw [Nat.mul_comm,Nat.mul_add_div (by omega),Nat.div_eq_of_lt hj,Nat.add_zero]
 have h2:(i'*cols+j')/cols=i':=by rw [Nat.mul_comm,Nat.mul_add_div (by omega),Nat.div_eq_of_lt hj',Nat.add_zero]
 have:i=i':=by rw [<- h1,<- h2,h]
 subst this
 exact ⟨rfl,by omega⟩
section
variable {h g o:Heap} {T:Tb} {M:Nat->Nat->Int} {S:Nat->Rat} {K:Value->Heap->Prop} {m:Nat}
theorem Tab.next(t:Tab h g o T M S){h' g':Heap}(s:Sep h' g' o)(l:g.le g'):Tab h' g' o T M S:=by
 refine ⟨s,t.n1,t.n2,t.n3,t.head,?_,?_,t.cE,t.cS,t.small,t.pos⟩
 ·obtain ⟨ws,r,hl,hw⟩:=t.elems
  refine ⟨ws,r,hl,fun i j hi hj=>?_⟩
  obtain ⟨w,e,hz⟩:=hw i j hi hj
  exact ⟨w,e,A3h _ _ _ _ l hz⟩
 ·obtain ⟨ss,r,hl,hw⟩:=t.scales
  exact ⟨ss,r,hl,hw.mono Z2 l⟩
theorem Tab.congr(t:Tab h g o T M S){M':Nat->Nat->Int}{S':Nat->Rat}(hM:∀ i j,i<T.rows->j<T.cols->M i j=M' i j)(hS:∀ i,i<T.rows->S i=S' i):Tab h g o T M' S':=by
 refine ⟨t.sep,t.n1,t.n2,t.n3,t.head,?_,?_,t.cE,t.cS,t.small,t.pos⟩
 ·obtain ⟨ws,r,hl,hw⟩:=t.elems
  refine ⟨ws,r,hl,fun i j hi hj=>?_⟩
  rw [<- hM i j hi hj];exact hw i j hi hj
 ·obtain ⟨ss,r,hl,hw⟩:=t.scales
  exact ⟨ss,r,hl,hw.congr hS⟩
theorem Tab.c0(t:Tab h g o T M S):h.cell? (Addr.add ⟨T.bt,0,none⟩ 0)=some (I T.cols):=by
 obtain ⟨e,he⟩:=t.head
 refine t.sep.cell ?_
 rw [D8];unfold Heap.cell?;simp only [he];rfl
theorem Tab.c1(t:Tab h g o T M S):h.cell? (Addr.add ⟨T.bt,0,none⟩ 1)=some (.slice (some ⟨T.bE,0,none⟩) (T.rows*T.cols) T.cE):=by
 obtain ⟨e,he⟩:=t.head
 refine t.sep.cell ?_
 rw [D8];unfold Heap.cell?;simp only [he];rfl
theorem Tab.c2(t:Tab h g o T M S):h.cell? (Addr.add ⟨T.bt,0,none⟩ 2)=some (.slice (some ⟨T.bS,0,none⟩) T.rows T.cS):=by
 obtain ⟨e,he⟩:=t.head
 refine t.sep.cell ?_
 rw [D8];unfold Heap.cell?;simp only [he];rfl
theorem Tab.at(t:Tab h g o T M S){i j:Nat}(hi:i<T.rows)(hj:j<T.cols):∃ w:IV,ZIr g w (M i j)/\h.cell? (Addr.add (Addr.add ⟨T.bE,i*T.cols*2,none⟩ (j*2)) 0)=some (.bool w.s)/\h.cell? (Addr.add (Addr.add ⟨T.bE,i*T.cols*2,none⟩ (j*2)) 1)=some (.slice w.A w.n w.c):=by
 obtain ⟨ws,r,hl,hw⟩:=t.elems
 obtain ⟨w,e,hz⟩:=hw i j hi hj
 have hlt:=S7 hi hj
 have he:ws[i*T.cols+j]=w:=by
  rw [List.getElem?_eq_getElem (by omega)] at e
  cases e;rfl
 have ha:i*T.cols*2+j*2=(i*T.cols+j)*2:=by rw [Nat.add_mul]
 refine ⟨w,hz,t.sep.cell ?_,t.sep.cell ?_⟩
 ·rw [D8,D8,ha]
  exact r.cell (i:=i*T.cols+j) (by omega) (j:=0) (v:=.bool w.s) (by rw [he];rfl)
 ·rw [D8,D8,ha]
  exact r.cell (i:=i*T.cols+j) (by omega) (j:=1) (v:=.slice w.A w.n w.c) (by rw [he];rfl)
theorem Tab.ato(t:Tab h g o T M S){i j:Nat}(hi:i<T.rows)(hj:j<T.cols):∃ w:IV,ZIr g w (M i j)/\o.cell? (Addr.add (Addr.add ⟨T.bE,i*T.cols*2,none⟩ (j*2)) 0)=some (.bool w.s)/\o.cell? (Addr.add (Addr.add ⟨T.bE,i*T.cols*2,none⟩ (j*2)) 1)=some (.slice w.A w.n w.c):=by
 obtain ⟨ws,r,hl,hw⟩:=t.elems
 obtain ⟨w,e,hz⟩:=hw i j hi hj
 have hlt:=S7 hi hj
 have he:ws[i*T.cols+j]=w:=by
  rw [List.getElem?_eq_getElem (by omega)] at e
  cases e;rfl
 have ha:i*T.cols*2+j*2=(i*T.cols+j)*2:=by rw [Nat.add_mul]
 refine ⟨w,hz,?_,?_⟩
 ·rw [D8,D8,ha]
  exact r.cell (i:=i*T.cols+j) (by omega) (j:=0) (v:=.bool w.s) (by rw [he];rfl)
 ·rw [D8,D8,ha]
  exact r.cell (i:=i*T.cols+j) (by omega) (j:=1) (v:=.slice w.A w.n w.c) (by rw [he];rfl)
theorem Sep.le_le{h' g':Heap}(s:Sep h g o)(s':Sep h' g' o)(l:g.le g'):h.le h':=fun k x e=>by
 cases ho:o k with
 | some y=>rw [s.own k y ho] at e;rw [s'.own k y ho];exact e
 | none=>rw [s.rest k ho] at e;rw [s'.rest k ho];exact l k x e
theorem Tab.sat(t:Tab h g o T M S){i:Nat}(hi:i<T.rows):∃ w:QV,RQ g w (S i)/\h.cell? (Addr.add (Addr.add ⟨T.bS,0,none⟩ (i*4)) 0)=some (.bool w.s)/\h.cell? (Addr.add (Addr.add ⟨T.bS,0,none⟩ (i*4)) 1)=some (.slice w.A w.n w.c)/\h.cell? (Addr.add (Addr.add ⟨T.bS,0,none⟩ (i*4)) 2)=some (.bool w.s2)/\h.cell? (Addr.add (Addr.add ⟨T.bS,0,none⟩ (i*4)) 3)=some (.slice w.A2 w.n2 w.c2):=by
 obtain ⟨ss,r,hl,hw⟩:=t.scales
 obtain ⟨w,e,hz⟩:=hw i hi
 have he:ss[i]=w:=by
  rw [List.getElem?_eq_getElem (by omega)] at e
  cases e;rfl
 have cell:∀ k v,(enc w)[k]? = some v->h.cell? (Addr.add (Addr.add ⟨T.bS,0,none⟩ (i*4)) k)=some v:=by
  intro k v hk
  refine t.sep.cell ?_
  rw [D8,D8,Nat.zero_add]
  exact r.cell (i:=i) (by omega) (j:=k) (by rw [he];exact hk)
 exact ⟨w,hz,cell 0 _ rfl,cell 1 _ rfl,cell 2 _ rfl,cell 3 _ rfl⟩
theorem Tab.store(t:Tab h g o T M S){i j:Nat}(hi:i<T.rows)(hj:j<T.cols){w:IV}{z:Int}(hz:ZIr g w z){K:Unit->Heap->Prop}
 (x:∀ h' o',Tab h' g o' T (B8h M i j z) S->(∀ k,k≠T.bE->o' k=o k)->K () h'):wpH Tryz.prog (Instr.storeAt Ik (.pointer (some (Addr.add ⟨T.bE,i*T.cols*2,none⟩ (j*2)))) w.v) K h:=by
 obtain ⟨ws,r,hl,hw⟩:=t.elems
 have hlt:=S7 hi hj
 have ha:i*T.cols*2+j*2=(i*T.cols+j)*2:=by rw [Nat.add_mul]
 rw [D8,ha]
 refine Sep.store (E:=inferInstanceAs (Enc IV)) Zy (v:=w.v) (y:=w) rfl t.sep r (i:=i*T.cols+j) (by omega) rfl ?_
 intro h' o' x' eo s' r'
 refine x h' o' ⟨s',t.n1,t.n2,t.n3,?_,⟨_,r',by simpa using hl,fun a b ha' hb=>?_⟩,?_,t.cE,t.cS,t.small,t.pos⟩ (fun k hk=>by rw [eo,B8 _ _ hk])
 ·obtain ⟨e,he⟩:=t.head
  exact ⟨e,by rw [eo,B8 _ _ t.n1];exact he⟩
 ·unfold B8h
  by_cases e:a=i/\b=j
  ·obtain ⟨rfl,rfl⟩:=e
   exact ⟨w,by rw [List.getElem?_set_self (by omega)],by rw [if_pos ⟨rfl,rfl⟩];exact hz⟩
  ·obtain ⟨u,e1,hu⟩:=hw a b ha' hb
   refine ⟨u,?_,by rw [if_neg e];exact hu⟩
   rw [List.getElem?_set_ne (fun x=>e (by have:=B39 hj hb x;exact ⟨this.1.symm,this.2.symm⟩))]
   exact e1
 ·obtain ⟨ss,r2,hl2,hw2⟩:=t.scales
  exact ⟨ss,by rw [eo];exact r2.other t.n3.symm _,hl2,hw2⟩
theorem O7{n:Nat}(h:n<=9223372036854775807):B4 (n:Int)=(n:Int):=B5 (by omega) (by omega)
theorem Iv(t:Tab h g o T M S){i:Nat}(hi:i<T.rows)(hK:K (.slice (some ⟨T.bE,i*T.cols*2,none⟩) T.cols (T.cE-i*T.cols)) h):FCall Tryz.prog Pn #[.pointer (some ⟨T.bt,0,none⟩),I (i:Int)] h K:=by
 refine B4c _ _ ?_
 unfold B9h
 have hs:=t.small
 have hc:=t.pos
 have h1:(i+1)*T.cols<=T.rows*T.cols:=Nat.mul_le_mul_right _ hi
 have h2:T.rows*T.cols<=10000*10000:=Nat.mul_le_mul hs.1 hs.2
 have h3:=t.cE
 have h4:(i+1)*T.cols=i*T.cols+T.cols:=by rw [Nat.add_mul,Nat.one_mul]
 have e1:B4 ((i:Int)*(T.cols:Int))=((i*T.cols:Nat):Int):=by rw [<- Int.natCast_mul];exact O7 (by omega)
 have e0:B4 ((i:Int)+1)=((i+1:Nat):Int):=B5 (by omega) (by omega)
 have e2:B4 (B4 ((i:Int)+1)*(T.cols:Int))=(((i+1)*T.cols:Nat):Int):=by rw [e0,<- Int.natCast_mul];exact O7 (by omega)
 refine ⟨_,rfl,_,_,_,t.c1,_,rfl,_,t.c0,_,rfl,_,t.c0,?_⟩
 rw [e1,e2]
 refine ⟨⟨by omega,by omega⟩,⟨by omega,by simp only [Int.toNat_natCast];omega⟩,?_⟩
 simp only [Int.toNat_natCast]
 rw [Xz (by omega),D8,Nat.zero_add,h4,Nat.add_sub_cancel_left]
 exact hK
end
theorem Vh{P:Program}{t:TypeId}{v:Value}{K:Value->Heap->Prop}{h:Heap}(x:∀ b,h b=none->K (.pointer (some ⟨b,0,none⟩)) (h.put b (.cells v.cells t))):wpH P (Instr.box t v) K h:=by
 unfold Instr.box newVar
 simp only [C4,O6,F6]
 exact x
theorem B31{m k:Nat}(hm:1<=m)(hk:k<4611686018427387904):(k:Int)*2^(2*m)<b64^m:=by
 have e:b64^m=(2:Int)^(2*m)*2^(62*m):=by
  have:b64=(2:Int)^64:=by decide
  rw [this,<- Int.pow_mul,<- Int.pow_add]
  congr 1;omega
 have h1:(2:Int)^62<=2^(62*m):=C9 (by decide) (by omega)
 have h2:(k:Int)<2^62:=by
  have:(2:Int)^62=4611686018427387904:=by decide
  rw [this];omega
 have hp:(0:Int)<2^(2*m):=Int.pow_pos (by decide)
 rw [e,Int.mul_comm]
 exact Int.mul_lt_mul_of_pos_left (Int.lt_of_lt_of_le h2 h1) hp
theorem A5k{m:Nat}{x y:Int}(hx:ZB m x)(hy:ZB m y):((x*y).natAbs:Int)<=2^(2*m):=by
 have:=hx.mul hy
 unfold ZB at this
 have e:m+m=2*m:=by omega
 rw [e] at this
 have:((x*y).natAbs:Int)<((2^(2*m):Nat):Int):=by omega
 rw [Int.natCast_pow] at this
 exact Int.le_of_lt this
section
variable {h g o:Heap} {T:Tb} {M:Nat->Nat->Int} {S:Nat->Rat} {K:Value->Heap->Prop} {m:Nat}
theorem A9a:(Tryz.prog.info? To).map (·.zero)=some (some (.agg #[.slice none 0 0,.slice none 0 0])):=by kernel_rfl
theorem A3p(t:Tab h g o T M S){i p c:Nat}{wb:IV}{d:Int}(hi:i<T.rows)(hp':p<T.rows)(hip:i≠p)(hc:c<T.cols)(ib:ZIr g wb d)(hd:d≠0)(hm1:1<=m)(hm:2*m+1<=100000000)(hMi:∀ b,b<T.cols->ZB m (M i b))(hMp:∀ b,b<T.cols->ZB m (M p b))(hdb:ZB m d)
 (hK:∀ h' g' o',g.le g'->Tab h' g' o' T (fun a b=>if a=i then (M p c*M i b-M i c*M p b).tdiv d else M a b) S->(∀ b,b≠T.bE->o' b=o b)->K (.tuple #[]) h'):FCall Tryz.prog Uz #[.pointer (some ⟨T.bt,0,none⟩),I (i:Int),I (p:Int),I (c:Int),wb.v] h K:=by
 refine A8o _ _ _ _ _ _ _ _ ?_
 unfold B2j
 refine Iv t hi ⟨_,_,_,rfl,Iv t hp' ⟨_,_,_,rfl,?_⟩⟩
 obtain ⟨wf,zf,f0,f1⟩:=t.at hi hc
 refine ⟨_,rfl,by omega,by omega,_,_,_,_,f0,f1,?_⟩
 refine ⟨fun L hp=>∃ (k:Nat) (g1 o1:Heap),k<=T.cols/\L=[I k]/\g.le g1/\Tab hp g1 o1 T (fun a b=>if a=i/\b<k then (M p c*M i b-M i c*M p b).tdiv d else M a b) S/\∀ b,b≠T.bE->o1 b=o b,fun L _=>T.cols-(iAt L 0).toNat,⟨0,g,o,by omega,rfl,B3 _,t.congr (fun a b _ _=>by rw [if_neg (by omega)]) (fun _ _=>rfl),fun _ _=>rfl⟩,?_⟩
 rintro z hq ⟨k,g1,o1,hk,eL,lg,t1,ho1⟩
 obtain rfl:z=(k:Int):=by simpa using eL
 have ew:B4 ((k:Int)+1)=((k+1:Nat):Int):=by have:=t.small;rw [B5]<;>omega
 refine B6 (fun hlt=>?_) (fun hge=>?_)
 ·have hkn:k<T.cols:=by omega
  obtain ⟨w1,z1,d0,d1⟩:=t1.at hi hkn
  rw [if_neg (by omega)] at z1
  have same:(M p c*M i k-M i c*M p k).tdiv d=M i k->(∃ (k':Nat) (g1 o1:Heap),k'<=T.cols/\[I (B4 ((k:Int)+1))]=[I k']/\g.le g1/\Tab hq g1 o1 T (fun a b=>if a=i/\b<k' then (M p c*M i b-M i c*M p b).tdiv d else M a b) S/\∀ b,b≠T.bE->o1 b=o b)/\T.cols-(iAt [I (B4 ((k:Int)+1))] 0).toNat<T.cols-(iAt [I (k:Int)] 0).toNat:=by
   intro e
   rw [ew]
   refine ⟨⟨k+1,g1,o1,by omega,rfl,lg,t1.congr (fun a b _ _=>?_) (fun _ _=>rfl),ho1⟩,by simp only [Re];omega⟩
   by_cases h1:a=i/\b<k
   ·rw [if_pos h1,if_pos ⟨h1.1,by omega⟩]
   ·rw [if_neg h1]
    by_cases h2:a=i/\b<k+1
    ·obtain ⟨rfl,h3⟩:=h2
     have:b=k:=by omega
     subst this
     rw [if_pos ⟨rfl,by omega⟩,e]
    ·rw [if_neg h2]
  refine ⟨_,rfl,by omega,by omega,_,_,_,_,d0,d1,fun L hp=>hp=hq,?_,?_⟩
  ·refine F5 (z1.mono t1.sep.le) ⟨_,rfl,B6 (fun e1=>?_) (fun _=>rfl)⟩
   refine F5 (zf.mono (A0 lg t1.sep.le)) ⟨_,rfl,B6 (fun e2=>same (by rw [e1,e2];simp)) (fun _=>?_)⟩
   obtain ⟨w2,z2,c0,c1⟩:=t1.at hp' hkn
   rw [if_neg (by omega)] at z2
   refine ⟨_,rfl,by omega,by omega,_,_,_,_,c0,c1,F5 (z2.mono t1.sep.le) ⟨_,rfl,B6 (fun e3=>same (by rw [e1,e3];simp)) (fun _=>rfl)⟩⟩
  ·rintro hp rfl
   refine Jw A9a ?_
   intro bs hbs
   have hgb:g1 bs=none:=by
    cases hx:g1 bs with
    | none=>rfl
    | some y=>rw [t1.sep.le _ _ hx] at hbs;cases hbs
   have s2:=t1.sep.vis hbs (.cells #[.slice none 0 0,.slice none 0 0] To)
   have Z0:SumS (g1.put bs (.cells #[.slice none 0 0,.slice none 0 0] To)) g1 bs To 200000001 0 0:=SumS.zero hgb
   obtain ⟨w3,z3,a0,a1⟩:=t1.ato hp' hc
   obtain ⟨w2,z2,c0,c1⟩:=t1.ato hp' hkn
   rw [if_neg (by omega)] at z2 z3
   have bl:∀ {gg:Heap} {w:IV} {x:Int},ZIr gg w x->ZB m x->w.n<=100000000:=fun i b=>ZI.len i b (by omega)
   have bpc:=hMp c hc
   have bik:=hMi k hkn
   have bic:=hMi c hc
   have bpk:=hMp k hkn
   have q1:=A5k bpc bik
   have q2:=A5k bic bpk
   have q0:=B31 (m:=m) (k:=2) hm1 (by omega)
   have l3:=bl z3 bpc
   have l1:=bl z1 bik
   have lf:=bl zf bic
   have l2:=bl z2 bpk
   refine ⟨_,rfl,_,rfl,by omega,by omega,_,_,_,_,s2.cell a0,s2.cell a1,?_⟩
   refine s2.call (Em Z0 z3 z1 (by omega) (by omega) (N1:=m) (by omega) (by omega) ?_)
   intro G3 g3 lg3 Z3 H3 s3
   refine ⟨rfl,_,rfl,by omega,by omega,_,_,_,_,s3.cell c0,s3.cell c1,?_⟩
   refine s3.call (Nf Z3 (zf.mono (A0 lg lg3)) (z2.mono lg3) (by omega) (by omega) (N1:=m) (by omega) (by omega) ?_)
   intro G4 g4 lg4 Z4 H4 s4
   refine ⟨rfl,s4.call (Tr Z4 (by omega) ?_)⟩
   intro sv Av nv cv G5 lg5 z5 H5 s5
   rw [Int.zero_add] at z5
   refine ⟨_,_,_,_,rfl,s4.le_le s5 lg5,?_⟩
   have g14:g1.le G5:=A0 lg3 (A0 lg4 (A0 Z4.le lg5))
   have bz:ZB (2*m+1) (M p c*M i k-M i c*M p k):=((bpc.mul bik).sub (bic.mul bpk)).mono (by omega)
   refine s5.call (N8 z5 (ib.mono (A0 lg g14)) bz (hdb.mono (by omega)) (by omega) hd ?_)
   intro s6 A6 n6 c6 G6 lg6 z6 H6 sp6
   refine ⟨_,_,_,_,rfl,s5.le_le sp6 lg6,_,rfl,by omega,by omega,?_⟩
   have t6:=t1.next sp6 (A0 g14 lg6)
   refine t6.store hi hkn (w:=⟨s6,A6,n6,c6⟩) z6 ?_
   intro H7 o7 t7 ho7
   rw [ew]
   refine ⟨⟨k+1,G6,o7,by omega,rfl,A0 lg (A0 g14 lg6),t7.congr (fun a b _ _=>?_) (fun _ _=>rfl),fun b hb=>by rw [ho7 b hb,ho1 b hb]⟩,by simp only [Re];omega⟩
   show (if a=i/\b=k then (M p c*M i k-M i c*M p k).tdiv d else if a=i/\b<k then (M p c*M i b-M i c*M p b).tdiv d else M a b)=_
   grind
 ·have hce:k=T.cols:=by omega
  subst hce
  exact hK hq g1 o1 lg (t1.congr (fun a b _ hb=>by
   by_cases h1:a=i
   ·rw [if_pos ⟨h1,hb⟩,if_pos h1]
   ·rw [if_neg (fun x=>h1 x.1),if_neg h1]) (fun _ _=>rfl)) ho1
theorem Tab.own(t:Tab h g o T M S):(∃ x,o T.bt=some x)/\(∃ x,o T.bE=some x)/\∃ x,o T.bS=some x:=by
 obtain ⟨e,he⟩:=t.head
 obtain ⟨ws,⟨e1,x1,h1⟩,_⟩:=t.elems
 obtain ⟨ss,⟨e2,x2,h2⟩,_⟩:=t.scales
 exact ⟨⟨_,he⟩,⟨_,h1⟩,⟨_,h2⟩⟩
theorem Tab.keep(t:Tab h g o T M S){h' g' o':Heap}(s:Sep h' g' o')(l:g.le g')(hk:∀ k x,o k=some x->k=T.bt\/k=T.bE\/k=T.bS->o' k=some x):Tab h' g' o' T M S:=by
 refine ⟨s,t.n1,t.n2,t.n3,?_,?_,?_,t.cE,t.cS,t.small,t.pos⟩
 ·obtain ⟨e,he⟩:=t.head
  exact ⟨e,hk _ _ he (.inl rfl)⟩
 ·obtain ⟨ws,⟨e,ex,hb⟩,hl,hw⟩:=t.elems
  refine ⟨ws,⟨e,ex,hk _ _ hb (.inr (.inl rfl))⟩,hl,fun i j hi hj=>?_⟩
  obtain ⟨w,e,hz⟩:=hw i j hi hj
  exact ⟨w,e,A3h _ _ _ _ l hz⟩
 ·obtain ⟨ss,⟨e,ex,hb⟩,hl,hw⟩:=t.scales
  exact ⟨ss,⟨e,ex,hk _ _ hb (.inr (.inr rfl))⟩,hl,hw.mono Z2 l⟩
abbrev zs(l:List Nat):List Int:=l.map fun (n:Nat)=>(n:Int)
end
section
variable {h:Heap} {K:Value->Heap->Prop} {A B:Option Addr} {n c n' c' m:Nat} {s s':Bool} {x y:Int}
theorem B2w:RQ h ⟨false,none,0,0,false,none,0,0⟩ 0:=⟨ZI.zero,ZI.zero⟩
theorem A1s{z:Int}(i:ZI h s A n c z):RQ h ⟨s,A,n,c,false,none,0,0⟩ (z:Rat):=⟨by simpa using i,by simpa using ZI.zero⟩
theorem Dq(gl:Gtz h)(ix:ZI h s A n c x)(iy:ZI h s' B n' c' y)(hx:ZB m x)(hy:ZB m y)(hm:m<=6400000000)(hK:∀ w h',h.le h'->RQ h' w (Rat.divInt x y)->K w.v h'):FCall Tryz.prog Ax #[.agg #[.bool s,.slice A n c],.agg #[.bool s',.slice B n' c']] h K:=by
 refine Yt _ _ _ _ _ _ _ _ ?_
 unfold Yu
 refine ⟨fun L hp=>hp=h/\((L=[.bool true]/\Rat.divInt x y=0)\/(L=[.bool false]/\y≠0)),?_,?_⟩
 ·refine F5 iy ⟨_,rfl,B6 (fun e=>⟨rfl,.inl ⟨rfl,by rw [e];exact Rat.divInt_zero x⟩⟩) (fun e=>F5 ix ⟨_,rfl,rfl,?_⟩)⟩
  by_cases e2:x=0
  ·exact .inl ⟨by rw [decide_eq_true e2],by rw [e2];exact Rat.zero_divInt y⟩
  ·exact .inr ⟨by rw [decide_eq_false e2],e⟩
 rintro t hp ⟨rfl,hL⟩
 refine Br.of (fun e=>?_) (fun e=>?_)
 ·rcases hL with ⟨_,h0⟩|⟨h1,_⟩
  ·rw [h0] at hK
   exact hK _ _ (B3 _) B2w
  ·simp at h1;rw [e] at h1;cases h1
 have hy0:y≠0:=by
  rcases hL with ⟨h1,_⟩|⟨_,h0⟩
  ·simp at h1;rw [e] at h1;cases h1
  ·exact h0
 refine ⟨fun l hq=>∃ s A n c s' B n' c' x' y',l=[.bool s,.slice A n c,.bool s',.slice B n' c']/\hp.le hq/\ZI hq s A n c x'/\ZI hq s' B n' c' y'/\0<y'/\Rat.divInt x' y'=Rat.divInt x y/\ZB m x'/\ZB m y',?_,?_⟩
 ·refine Km iy ⟨_,rfl,B6 (fun e=>?_) (fun e=>?_)⟩
  ·have hneg:y<0:=by rwa [Int.sign_neg_iff] at e
   refine Al ix ?_
   intro s1 i1
   refine ⟨_,_,_,_,rfl,B3 _,?_⟩
   refine Al iy ?_
   intro s2 i2
   exact ⟨_,_,_,_,rfl,B3 _,_,_,_,_,_,_,_,_,-x,-y,rfl,B3 _,i1,i2,by omega,Rat.neg_divInt_neg x y,hx.neg,hy.neg⟩
  ·have hpos:0<y:=by rw [Int.sign_neg_iff] at e;omega
   exact ⟨_,_,_,_,_,_,_,_,x,y,rfl,B3 _,ix,iy,hpos,rfl,hx,hy⟩
 rintro s1 A1 n1 c1 s2 A2 n2 c2 hp2 ⟨s1',A1',n1',c1',s2',A2',n2',c2',x',y',hl,hle,i1,i2,hpos,hq,hx',hy'⟩
 obtain ⟨rfl,⟨rfl,rfl,rfl⟩,rfl,rfl,rfl,rfl⟩:s1=s1'/\(A1=A1'/\n1=n1'/\c1=c1')/\s2=s2'/\A2=A2'/\n2=n2'/\c2=c2':=by simpa using hl
 rw [<- hq] at hK
 refine Q7 i2 ⟨_,rfl,B6 (fun e1=>?_) (fun e1=>?_)⟩
 ·rw [e1,Sm] at hK
  exact hK _ _ hle (A1s i1)
 refine Bz (gl.mono hle) i1 i2 hx' hy' hm ?_
 intro A3 n3 c3 h3 l3 i3
 refine ⟨_,_,_,_,rfl,?_⟩
 generalize hqq:Rat.divInt x' y'=q at *
 have hnum:q.num=x'/(Int.gcd x' y':Int):=by
  rw [<- hqq,Rat.num_divInt,Int.sign_eq_one_of_pos hpos,Int.one_mul,Int.gcd_comm]
 have hden:(q.den:Int)=y'/(Int.gcd x' y':Int):=by
  rw [<- hqq,Rat.den_divInt,if_neg (by omega),Int.gcd_comm,Int.natCast_ediv,Int.natAbs_of_nonneg (by omega)]
 have hg1:0<Int.gcd x' y':=Int.gcd_pos_of_ne_zero_right x' (by omega)
 have hgm:ZB m (Int.gcd x' y':Int):=ZB.gcd (by omega) hy'
 refine Q7 i3 ⟨_,rfl,Bc (B6 (fun e2=>?_) (fun e2=>?_))⟩
 ·rw [e2] at hnum hden
  simp at hnum hden
  refine Q8 (q:=q) (i1.mono l3) (i2.mono l3) hnum hden ?_
  intro w iw
  exact ⟨_,_,_,_,_,_,_,_,rfl,hK _ _ (A0 hle l3) iw⟩
 ·refine N8 (i1.mono l3) i3 hx' hgm hm (by omega) ?_
  intro s4 A4 n4 c4 h4 l4 i4
  refine ⟨_,_,_,_,rfl,l4,?_⟩
  refine N8 ((i2.mono l3).mono l4) (i3.mono l4) hy' hgm hm (by omega) ?_
  intro s5 A5 n5 c5 h5 l5 i5
  refine ⟨_,_,_,_,rfl,l5,?_⟩
  refine Q8 (q:=q) (i4.mono l5) i5 (by rw [hnum,Int.tdiv_eq_ediv_of_dvd (Int.gcd_dvd_left x' y')]) (by rw [hden,Int.tdiv_eq_ediv_of_dvd (Int.gcd_dvd_right x' y')]) ?_
  intro w iw
  exact ⟨_,_,_,_,_,_,_,_,rfl,hK _ _ (A0 hle (A0 l3 (A0 l4 l5))) iw⟩
end
section
variable {α:Type} [E:Enc α]
theorem OwnSl.store{P:Program}{t e:TypeId}(one:P.cellsOf t=E.default.size/\(P.info? t).isSome=true){v:Value}{y:α}(hv:v.cells=(enc y).toArray){h g o:Heap}{A:Option Addr}{c:Nat}{xs:List α}(s:Sep h g o)(w:OwnSl o e A c xs){i b:Nat}(hi:i<xs.length)(hA:A=some ⟨b,0,none⟩){K:Unit->Heap->Prop}
 (x:∀ h' o',Sep h' g o'->OwnSl o' e A c (xs.set i y)->(∀ k,k≠b->o' k=o k)->K () h'):wpH P (Instr.storeAt t (.pointer (some (Addr.add ⟨b,0,none⟩ (i*E.default.size)))) v) K h:=by
 rcases w.2 with ⟨h0,_⟩|⟨b',arr,hA',hb,h1,h2⟩
 ·exfalso;have:=w.1;omega
 ·rw [hA] at hA'
  simp only [Option.some.injEq,Addr.mk.injEq,and_true] at hA'
  subst hA'
  obtain ⟨ex,hex⟩:∃ ex,arr=xs.flatMap enc++ex:=⟨arr.drop (xs.length*E.default.size),by rw [<- h2,List.take_append_drop]⟩
  rw [hex] at hb h1
  obtain ⟨ti,hti⟩:=Option.isSome_iff_exists.1 one.2
  have hs:ti.size=E.default.size:=by simpa [Program.cellsOf,hti] using one.1
  have hl:=E.default.len y
  have hle:(i+1)*E.default.size<=xs.length*E.default.size:=Nat.mul_le_mul_right _ hi
  rw [Nat.add_mul,Nat.one_mul] at hle
  have hput:(h.without b).put b (.cells (xs.flatMap enc++ex).toArray e)=h:=J8 (s.own b _ hb)
  unfold Instr.storeAt
  simp only [C4,Instr.sureAddr,F6,storeVar,J7 hti,hs,hv,List.size_toArray,hl,ne_eq,not_true_eq_false,if_false]
  rw [D8,Nat.zero_add,<- hput]
  refine I6 (enc y) (i*E.default.size) 0 _ (by rw [List.length_append,K0,hl];omega) (E.default.one y) ?_
  have hsp:J2 (xs.flatMap enc++ex) (i*E.default.size+0) (enc y)=(xs.set i y).flatMap enc++ex:=by
   rw [Nat.add_zero,<- Un xs hi]
   unfold J2
   rw [List.take_append_of_le_length (by rw [K0];omega),List.drop_append_of_le_length (by rw [K0,hl];omega),List.append_assoc,List.append_assoc,List.append_assoc]
  rw [hsp]
  have hp2:(h.without b).put b (.cells ((xs.set i y).flatMap enc++ex).toArray e)=h.put b (.cells ((xs.set i y).flatMap enc++ex).toArray e):=by
   rw [<- hput,Gi,hput]
  rw [hp2]
  refine x _ _ (s.upd hb _) ⟨by simpa using w.1,.inr ⟨b,(xs.set i y).flatMap enc++ex,hA,C3 _ _ _,?_,?_⟩⟩ (fun k hk=>B8 _ _ hk)
  ·rw [List.length_append,K0] at h1 ⊢
   simpa using h1
  ·rw [List.take_append_of_le_length (by rw [K0];omega),List.take_of_length_le (by rw [K0];omega)]
end
section
variable {h g:Heap} {K:Value->Heap->Prop} {A:Option Addr} {n c cols:Nat}
def A8g(h:Heap)(v:Value)(A:Option Addr)(n c cols:Nat):Prop:=∃ f0 f1:Addr,v= .func (.func Fq) #[] #[.pointer (some f0),.pointer (some f1)]/\h.cell? f0=some (.slice A n c)/\h.cell? f1=some (I (cols:Int))
theorem A3q(hc:1<=cols)(hK:∀ v h',h.le h'->A8g h' v A n c cols->K v h'):FCall Tryz.prog Uu #[.slice A n c,I (cols:Int)] h K:=by
 refine A8d _ _ _ _ ?_
 unfold B2c
 refine Vh ?_
 intro b hb
 refine ⟨_,rfl,Vh ?_⟩
 intro b2 hb2
 have c1:Heap.cell? ((h.put b (.cells (Value.cells (.slice A n c)) An)).put b2 (.cells (Value.cells (I (cols:Int))) 3)) ⟨b2,0,none⟩=some (I (cols:Int)):=by rw [E5];rfl
 refine ⟨_,rfl,_,c1,B6 (fun e=>by omega) (fun _=>hK _ _ (A0 (Heap.le_put _ hb) (Heap.le_put _ hb2)) ⟨⟨b,0,none⟩,⟨b2,0,none⟩,rfl,?_,c1⟩)⟩
 refine D5 (Heap.le_put _ hb2) ?_
 rw [E5];rfl
theorem A0a{g0:Heap}{v:Value}{rows:Nat}(ic:A8g g0 v A (rows*cols) c cols)(hc:1<=cols)(hn:rows*cols<=1000000000)(hcap:rows*cols<=c){B:List Value->Heap->(Heap->Prop)->Prop}{K:Heap->Prop}(J:Nat->Heap->Prop)(h0:J 0 h)(hle:∀ k h,J k h->g0.le h)
 (hB:∀ k h1,k<rows->J k h1->B [.slice (J6 A ((k+1)*cols) (k*cols) 4) cols cols] h1 (J (k+1))) (hK:∀ h1,J rows h1->K h1):A2q Tryz.prog v h B K:=by
 obtain ⟨f0,f1,rfl,e0,e1⟩:=ic
 refine ⟨Fq,#[],#[.pointer (some f0),.pointer (some f1)],rfl,Vv,?_⟩
 intro l rec hl hround
 have ea:(#[] ++ #[.func (.yield l) #[] #[]] ++ #[.pointer (some f0),.pointer (some f1)]:Array Value)=#[.func (.yield l) #[] #[],.pointer (some f0),.pointer (some f1)]:=by simp
 rw [ea]
 refine A4g l f0 f1 ?_
 unfold A8e
 refine ⟨fun L hp=>∃ (k:Nat) (h1:Heap),k<=rows/\L=[I ((k*cols:Nat):Int)]/\h1 l=none/\hp=h1.put l (.loop rec)/\J k h1,fun L _=>rows*cols-(iAt L 0).toNat,⟨0,h,by omega,by simp,hl,rfl,h0⟩,?_⟩
 rintro i hp ⟨k,h1,hk,eL,hl1,rfl,hJ⟩
 obtain rfl:i=((k*cols:Nat):Int):=by simpa using eL
 have lg:=A0 (hle k h1 hJ) (Heap.le_put (.loop rec) hl1)
 have d0:=D5 lg e0
 have d1:=D5 lg e1
 refine ⟨_,_,_,d0,B6 (fun hlt=>?_) (fun hge=>?_)⟩
 ·have hkr:k<rows:=by
   by_cases hx:k<rows
   ·exact hx
   ·exfalso
    have:rows*cols<=k*cols:=Nat.mul_le_mul_right _ (by omega)
    omega
  have h2:(k+1)*cols<=rows*cols:=Nat.mul_le_mul_right _ hkr
  have h3:(k+1)*cols=k*cols+cols:=by rw [Nat.add_mul,Nat.one_mul]
  have em:(if ((rows*cols-(((k*cols:Nat):Int)).toNat:Nat):Int)<(cols:Int) then ((rows*cols-(((k*cols:Nat):Int)).toNat:Nat):Int) else (cols:Int))=(cols:Int):=by
   rw [if_neg (by simp only [Int.toNat_natCast];omega)]
  have ew:B4 (((k*cols:Nat):Int)+(cols:Int))=(((k+1)*cols:Nat):Int):=by rw [B5]<;>omega
  refine ⟨_,d1,_,_,_,d0,⟨by omega,by omega⟩,_,_,_,d0,?_⟩
  rw [em,ew]
  simp only [Int.toNat_natCast]
  have e5:(k+1)*cols-k*cols=cols:=by omega
  rw [e5]
  refine ⟨⟨by omega,by omega⟩,⟨by omega,by omega⟩,⟨by omega,by omega⟩,?_⟩
  refine (hround _ h1 (J (k+1)) hl1 (hB k h1 hkr hJ)).mono ?_
  rintro r h4 ⟨rfl,h5,hl5,rfl,hJ5⟩
  refine ⟨_,rfl,?_⟩
  show ∃ (t11:Int),_
  have lg5:=A0 (hle _ h5 hJ5) (Heap.le_put (.loop rec) hl5)
  refine ⟨_,D5 lg5 e1,?_⟩
  rw [ew]
  exact ⟨⟨k+1,h5,by omega,rfl,hl5,rfl,hJ5⟩,by simp only [Re];omega⟩
 ·have hke:k=rows:=by
   by_cases hx:k=rows
   ·exact hx
   ·exfalso
    have:(k+1)*cols<=rows*cols:=Nat.mul_le_mul_right _ (by omega)
    rw [Nat.add_mul,Nat.one_mul] at this
    omega
  subst hke
  exact ⟨h1,hl1,rfl,hK h1 hJ⟩
end
section
variable {α:Type} [E:Enc α]
theorem Qu{P:Program}{t e:TypeId}{z:Value}{bytes:Nat}(st:SliceT P t e z E.default.size bytes){h g o:Heap}{A:Option Addr}{c:Nat}{xs:List α}(s:Sep h g o)(w:OwnSl o e A c xs){v:Value}{y:α}(hv:v.cells=(enc y).toArray)(hsz:E.default.size<=1000)
 (hb:(2*(xs.length+1)+192)*bytes<=281474976710656) (hn:xs.length+1<=9223372036854775807) {K:Value->Heap->Prop}
 (x0:∀ B m d hp,h.le hp->(∀ {ty:TypeId} {K2:Value->Heap->Prop},(∀ A' c' h' g' o',g.le g'->Sep h' g' o'->OwnSl o' e A' c' (xs++[y])->(∀ k u,o k=some u->A≠some ⟨k,0,none⟩->o' k=some u/\A'≠some ⟨k,0,none⟩)->K2 (.slice A' (xs.length+1) c') h')->wpH P (Builtin.append_ #[t,t] ty #[.slice A xs.length c,.slice B m d]) K2 hp)->K (.slice B m d) hp):
 wpH P (Instr.buildSlice t 1 #[(0,v)]) K h:=by
 obtain ⟨gb,p,hkeep⟩:=w.priv s
 refine Xh st (vs:=[v]) (fun u hu=>by rw [List.mem_singleton.1 hu,hv];simp [E.default.len]) rfl (by simp;omega) rfl ?_
 intro b hfree
 have hfl:[v].flatMap (fun v=>v.cells.toList)=[y].flatMap enc:=by simp [hv]
 rw [hfl]
 refine x0 _ _ _ _ (Heap.le_put _ hfree) (fun {ty K2} x=>?_)
 have p':PrivF (h.put b (.cells ([y].flatMap enc).toArray e)) (gb.put b (.cells ([y].flatMap enc).toArray e)) e A c xs:=Priv.put p hfree _
 refine A3v st p' (ys:=[y]) rfl (B3t e h b [y]) hb hn ?_
 intro A' c' h' g' hg hp
 rw [List.length_append]
 have hgk:∀ k u,h k=some u->A≠some ⟨k,0,none⟩->g' k=some u:=by
  intro k u e1 hne
  have hkb:k≠b:=by rintro rfl;rw [hfree] at e1;cases e1
  exact hg k u (by rw [B8 _ _ hkb];exact hkeep k u e1 hne)
 have hnA:∀ k u,g k=some u->A≠some ⟨k,0,none⟩:=by
  intro k u e1 hA
  rcases w.2 with ⟨_,h0⟩|⟨b',arr,hA',hb',_⟩
  ·rw [hA] at h0;cases h0
  ·rw [hA] at hA'
   simp only [Option.some.injEq,Addr.mk.injEq,and_true] at hA'
   subst hA'
   rw [s.dis k _ hb'] at e1;cases e1
 rcases hp.2.2 with ⟨hc0,_⟩|⟨b',arr,hA',hb',hh',ha,ht⟩
 ·exfalso
  have:=hp.2.1
  rw [List.length_append] at this
  simp at this
  omega
 ·subst hA'
  let o':Heap:=fun k=>if k=b' then some (.cells (List.toArray arr) e) else if A=some ⟨k,0,none⟩ then none else o k
  have ob:o' b'=some (.cells (List.toArray arr) e):=by show (if b'=b' then _ else _)=_;rw [if_pos rfl]
  have ok:∀ k,k≠b'->A≠some ⟨k,0,none⟩->o' k=o k:=fun k h1 h2=>by show (if k=b' then _ else if _ then _ else _)=_;rw [if_neg h1,if_neg h2]
  have ono:∀ k,k≠b'->A=some ⟨k,0,none⟩->o' k=none:=fun k h1 h2=>by show (if k=b' then _ else if _ then _ else _)=_;rw [if_neg h1,if_pos h2]
  let g2:Heap:=fun k=>match o' k with|some _=>none|none=>h' k
  have gs:∀ k u,o' k=some u->g2 k=none:=fun k u e1=>by show (match o' k with|some _=>none|none=>h' k)=_;rw [e1]
  have gn:∀ k,o' k=none->g2 k=h' k:=fun k e1=>by show (match o' k with|some _=>none|none=>h' k)=_;rw [e1]
  have hput:∀ k u,k≠b'->g' k=some u->h' k=some u:=fun k u h1 e1=>by rw [hh',B8 _ _ h1];exact e1
  have hown:∀ k u,o k=some u->A≠some ⟨k,0,none⟩->k≠b':=by
   rintro k u e1 h2 rfl
   have:=hgk k u (s.own k u e1) h2
   rw [hb'] at this;cases this
  refine x _ c' h' g2 o' (fun k u e1=>?_) ⟨fun k u e1=>?_,fun k e1=>(gn k e1).symm,gs⟩ ⟨hp.2.1,.inr ⟨b',arr,rfl,ob,ha,ht⟩⟩ (fun k u e1 h2=>?_)
  ·have hk0:o k=none:=by
    cases ho:o k with
    | none=>rfl
    | some y=>rw [s.dis k y ho] at e1;cases e1
   have hA:=hnA k u e1
   have e3:=hgk k u (s.le k u e1) hA
   have hkb':k≠b':=by rintro rfl;rw [hb'] at e3;cases e3
   rw [gn k (by rw [ok k hkb' hA];exact hk0)]
   exact hput k u hkb' e3
  ·by_cases hkb:k=b'
   ·subst hkb
    rw [ob] at e1;cases e1
    rw [hh',C3]
   ·by_cases hA:A=some ⟨k,0,none⟩
    ·rw [ono k hkb hA] at e1;cases e1
    ·rw [ok k hkb hA] at e1
     exact hput k u hkb (hgk k u (s.own k u e1) hA)
  ·have hkb:=hown k u e1 h2
   refine ⟨by rw [ok k hkb h2];exact e1,fun h3=>hkb ?_⟩
   simp only [Option.some.injEq,Addr.mk.injEq,and_true] at h3
   exact h3.symm
end
theorem A2p{P:Program}{t:TypeId}(one:P.cellsOf t=1/\(P.info? t).isSome=true){v:Value}(hv:Zj v=true)(hc:v.cells=#[v]){h g o:Heap}(s:Sep h g o){b:Nat}{cs:Array Value}{e:TypeId}(hb:o b=some (.cells cs e)){i:Nat}(hi:i<cs.size){K:Unit->Heap->Prop}
 (x:∀ h' o',Sep h' g o'->o'=o.put b (.cells (cs.setIfInBounds i v) e)->K () h'):wpH P (Instr.storeAt t (.pointer (some (Addr.add ⟨b,0,none⟩ i))) v) K h:=by
 rw [D8,Nat.zero_add]
 have hput:h.put b (.cells cs e)=h:=Vw (s.own b _ hb)
 rw [<- hput]
 refine Cf one.1 one.2 hv hc hi ?_
 exact x _ _ (s.upd hb _) rfl
structure NT (o:Heap) (bp bt cols:Nat) (es:List IV) (ss:List QV) (A:Option Addr) (c:Nat) (A':Option Addr) (c':Nat):Prop where
 hp:∃ e,o bp=some (.cells #[.pointer (some ⟨bt,0,none⟩)] e)
 ht:∃ e,o bt=some (.cells #[I (cols:Int),.slice A es.length c,.slice A' ss.length c'] e)
 oe:OwnSl o Ik A c es
 os:OwnSl o G0 A' c' ss
 ne:bp≠bt
 a1:A≠some ⟨bp,0,none⟩/\A≠some ⟨bt,0,none⟩
 a2:A'≠some ⟨bp,0,none⟩/\A'≠some ⟨bt,0,none⟩
 a3:∀ b,A=some ⟨b,0,none⟩->A'≠some ⟨b,0,none⟩
section
variable {h g o:Heap} {bp bt cols:Nat} {es:List IV} {ss:List QV} {A A':Option Addr} {c c':Nat}
theorem NT.cp(n:NT o bp bt cols es ss A c A' c')(s:Sep h g o):h.cell? ⟨bp,0,none⟩=some (.pointer (some ⟨bt,0,none⟩)):=by
 obtain ⟨e,he⟩:=n.hp
 refine s.cell ?_
 unfold Heap.cell?;simp only [he];rfl
theorem NT.c1(n:NT o bp bt cols es ss A c A' c')(s:Sep h g o):h.cell? (Addr.add ⟨bt,0,none⟩ 1)=some (.slice A es.length c):=by
 obtain ⟨e,he⟩:=n.ht
 refine s.cell ?_
 rw [D8];unfold Heap.cell?;simp only [he];rfl
theorem NT.c2(n:NT o bp bt cols es ss A c A' c')(s:Sep h g o):h.cell? (Addr.add ⟨bt,0,none⟩ 2)=some (.slice A' ss.length c'):=by
 obtain ⟨e,he⟩:=n.ht
 refine s.cell ?_
 rw [D8];unfold Heap.cell?;simp only [he];rfl
theorem A9e:Tryz.prog.cellsOf Md=1/\(Tryz.prog.info? Md).isSome=true:=by constructor<;>kernel_rfl
theorem A9d:Tryz.prog.cellsOf An=1/\(Tryz.prog.info? An).isSome=true:=by constructor<;>kernel_rfl
theorem NT.buildE(n:NT o bp bt cols es ss A c A' c')(s:Sep h g o)(w:IV)(hl:es.length<=100000000){F:Heap->Prop}(hF:∀ h' g' o' A2 c2,g.le g'->Sep h' g' o'->NT o' bp bt cols (es++[w]) ss A2 c2 A' c'->F h'){K:Value->Heap->Prop}
 (x:∀ B m d hp,h.le hp->hp.cell? ⟨bp,0,none⟩=some (.pointer (some ⟨bt,0,none⟩))->(∀ {K2:Value->Heap->Prop},(∀ A2 c2 h2,h2.cell? ⟨bp,0,none⟩=some (.pointer (some ⟨bt,0,none⟩))->wpH Tryz.prog (Instr.storeAt Md (.pointer (some (Addr.add ⟨bt,0,none⟩ 1))) (.slice A2 (es.length+1) c2)) (fun _ h3=>F h3) h2->K2 (.slice A2 (es.length+1) c2) h2)->wpH Tryz.prog (Builtin.append_ #[Md,Md] Md #[.slice A es.length c,.slice B m d]) K2 hp)->K (.slice B m d) hp):
 wpH Tryz.prog (Instr.buildSlice Md 1 #[(0,w.v)]) K h:=by
 refine Qu tZs s n.oe (y:=w) rfl (by decide) (by omega) (by omega) ?_
 intro B m d hp lp happ
 refine x B m d hp lp (D5 lp (n.cp s)) (fun {K2} hk=>happ ?_)
 intro A2 c2 h2 g2 o2 lg s2 ow keep
 obtain ⟨e1,he1⟩:=n.hp
 obtain ⟨e2,he2⟩:=n.ht
 have k1:=keep bp _ he1 n.a1.1
 have k2:=keep bt _ he2 n.a1.2
 refine hk A2 c2 h2 ?_ ?_
 ·refine s2.cell ?_
  unfold Heap.cell?;simp only [k1.1];rfl
 ·refine A2p A9e rfl rfl s2 k2.1 (by simp) ?_
  intro h3 o3 s3 eo
  have ko:∀ k,k≠bt->o3 k=o2 k:=fun k hk=>by rw [eo,B8 _ _ hk]
  refine hF h3 g2 o3 A2 c2 lg s3 ⟨⟨e1,by rw [ko _ n.ne];exact k1.1⟩,⟨e2,by rw [eo,C3];simp⟩,ow.keep fun b y hb he=>by rw [ko b (fun e=>k2.2 (by rw [<- e];exact hb))];exact he,?_,n.ne,⟨k1.2,k2.2⟩,n.a2,?_⟩
  ·refine (n.os.keep (o':=o2) fun b y hb he=>(keep b y he (fun e=>n.a3 b e hb)).1).keep fun b y hb he=>by rw [ko b (fun e=>n.a2.2 (by rw [<- e];exact hb))];exact he
  ·intro b hb hb'
   rcases n.os.2 with ⟨_,h0⟩|⟨b',arr,hA',hbo,_⟩
   ·rw [h0] at hb';cases hb'
   ·rw [hA'] at hb'
    simp only [Option.some.injEq,Addr.mk.injEq,and_true] at hb'
    subst hb'
    exact (keep b' _ hbo (fun e=>n.a3 b' e hA')).2 hb
theorem NT.buildS(n:NT o bp bt cols es ss A c A' c')(s:Sep h g o)(w:QV)(hl:ss.length<=100000000){F:Heap->Prop}(hF:∀ h' g' o' A2 c2,g.le g'->Sep h' g' o'->NT o' bp bt cols es (ss++[w]) A c A2 c2->F h'){K:Value->Heap->Prop}
 (x:∀ B m d hp,h.le hp->hp.cell? ⟨bp,0,none⟩=some (.pointer (some ⟨bt,0,none⟩))->(∀ {K2:Value->Heap->Prop},(∀ A2 c2 h2,h2.cell? ⟨bp,0,none⟩=some (.pointer (some ⟨bt,0,none⟩))->wpH Tryz.prog (Instr.storeAt An (.pointer (some (Addr.add ⟨bt,0,none⟩ 2))) (.slice A2 (ss.length+1) c2)) (fun _ h3=>F h3) h2->K2 (.slice A2 (ss.length+1) c2) h2)->wpH Tryz.prog (Builtin.append_ #[An,An] An #[.slice A' ss.length c',.slice B m d]) K2 hp)->K (.slice B m d) hp):
 wpH Tryz.prog (Instr.buildSlice An 1 #[(0,w.v)]) K h:=by
 refine Qu B4x s n.os (y:=w) rfl (by decide) (by omega) (by omega) ?_
 intro B m d hp lp happ
 refine x B m d hp lp (D5 lp (n.cp s)) (fun {K2} hk=>happ ?_)
 intro A2 c2 h2 g2 o2 lg s2 ow keep
 obtain ⟨e1,he1⟩:=n.hp
 obtain ⟨e2,he2⟩:=n.ht
 have k1:=keep bp _ he1 n.a2.1
 have k2:=keep bt _ he2 n.a2.2
 refine hk A2 c2 h2 ?_ ?_
 ·refine s2.cell ?_
  unfold Heap.cell?;simp only [k1.1];rfl
 ·refine A2p A9d rfl rfl s2 k2.1 (by simp) ?_
  intro h3 o3 s3 eo
  have ko:∀ k,k≠bt->o3 k=o2 k:=fun k hk=>by rw [eo,B8 _ _ hk]
  refine hF h3 g2 o3 A2 c2 lg s3 ⟨⟨e1,by rw [ko _ n.ne];exact k1.1⟩,⟨e2,by rw [eo,C3];simp⟩,?_,ow.keep fun b y hb he=>by rw [ko b (fun e=>k2.2 (by rw [<- e];exact hb))];exact he,n.ne,n.a1,⟨k1.2,k2.2⟩,?_⟩
  ·refine (n.oe.keep (o':=o2) fun b y hb he=>(keep b y he (fun e=>n.a3 b hb e)).1).keep fun b y hb he=>by rw [ko b (fun e=>n.a1.2 (by rw [<- e];exact hb))];exact he
  ·intro b hb
   rcases n.oe.2 with ⟨_,h0⟩|⟨b',arr,hA,hbo,_⟩
   ·rw [h0] at hb;cases hb
   ·rw [hA] at hb
    simp only [Option.some.injEq,Addr.mk.injEq,and_true] at hb
    subst hb
    exact (keep b' _ hbo (fun e=>n.a3 b' hA e)).2
end
def A1t(E:Nat->Rat)(cols i:Nat):Nat->Rat:=fun j=>E (i*cols+j)
def A5i(E:Nat->Rat)(cols i j:Nat):Int:=scl (A1t E cols i j) (Ra (A1t E cols i) cols:Int)
def A8p(E:Nat->Rat)(cols i:Nat):Nat->Nat
 | 0=>0
 | j+1=>Int.gcd (A8p E cols i j:Int) (A5i E cols i j)
def Sn(E:Nat->Rat)(cols i:Nat):Nat:=if A8p E cols i cols=0 then 1 else A8p E cols i cols
def Wa(E:Nat->Rat)(cols i j:Nat):Int:=(A5i E cols i j).tdiv (Sn E cols i:Int)
def Qz(E:Nat->Rat)(cols i:Nat):Rat:=Rat.divInt (Ra (A1t E cols i) cols:Int) (Sn E cols i:Int)
theorem A9x(E:Nat->Rat)(cols i:Nat):∀ n j,j<n->(A8p E cols i n:Int)∣A5i E cols i j:=by
 intro n
 induction n with
 | zero=>intro j h;omega
 | succ n ih=>
  intro j hj
  by_cases e:j=n
  ·subst e;exact Int.gcd_dvd_right _ _
  ·exact Int.dvd_trans (Int.gcd_dvd_left _ _) (ih j (by omega))
theorem Oc(E:Nat->Rat)(cols i:Nat):0<Sn E cols i:=by unfold Sn;split<;>omega
theorem B08(E:Nat->Rat)(cols i:Nat){j:Nat}(hj:j<cols):(Sn E cols i:Int)∣A5i E cols i j:=by
 unfold Sn
 split
 ·exact Int.one_dvd _
 ·exact A9x E cols i cols j hj
theorem B2q(E:Nat->Rat)(cols i:Nat){j:Nat}(hj:j<cols):(Wa E cols i j:Rat)=Qz E cols i*E (i*cols+j):=by
 have hc:=Oc E cols i
 have hc0:((Sn E cols i:Nat):Int)≠0:=by omega
 have h1:((Wa E cols i j:Int):Rat)*((Sn E cols i:Nat):Int)=E (i*cols+j)*((Ra (A1t E cols i) cols:Nat):Int):=by
  rw [<- Rat.intCast_mul]
  unfold Wa
  rw [Int.tdiv_mul_cancel (B08 E cols i hj)]
  exact B51 (by
   have:=A9t (A1t E cols i) cols j hj
   exact Int.natCast_dvd_natCast.2 this)
 have hne:=T3 hc0
 unfold Qz
 rw [Rat.divInt_eq_div]
 have h2:(((Ra (A1t E cols i) cols:Nat):Int):Rat)/(((Sn E cols i:Nat):Int):Rat)*E (i*cols+j)=E (i*cols+j)*(((Ra (A1t E cols i) cols:Nat):Int):Rat)/(((Sn E cols i:Nat):Int):Rat):=by
  rw [Rat.div_def,Rat.div_def];grind
 rw [h2,<- h1]
 generalize (((Sn E cols i:Nat):Int):Rat)=d at *
 rw [Rat.div_def]
 grind
theorem Nu(E:Nat->Rat)(cols i:Nat):0<Qz E cols i:=by
 unfold Qz
 rw [Rat.divInt_eq_div]
 have h1:(0:Rat)<((Ra (A1t E cols i) cols:Nat):Int):=by
  have:=A9s (A1t E cols i) cols
  exact_mod_cast this
 have h2:(0:Rat)<((Sn E cols i:Nat):Int):=by
  have:=Oc E cols i
  exact_mod_cast this
 rw [Rat.div_def]
 exact Rat.mul_pos h1 (Rat.inv_pos.2 h2)
theorem ZB.gcd2{k:Nat}{x y:Int}(hx:ZB k x)(hy:ZB k y):ZB k (Int.gcd x y:Int):=by
 by_cases h:y=0
 ·subst h
  rw [Int.gcd_zero_right]
  unfold ZB at *
  simpa using hx
 ·exact ZB.gcd h hy
section
variable {E:Nat->Rat} {cols i m:Nat}
theorem Ua(h:∀ j,j<cols->Sz m (E (i*cols+j))){j:Nat}(hj:j<cols):ZB (1+cols*m+m) (A5i E cols i j):=by
 have:=B50 (h j hj) (Uj (f:=A1t E cols i) cols h)
 exact this.mono (by omega)
theorem A6f(h:∀ j,j<cols->Sz m (E (i*cols+j))):∀ j,j<=cols->ZB (1+cols*m+m) (A8p E cols i j:Int):=by
 intro j
 induction j with
 | zero=>intro _;exact ZB.zero
 | succ j ih=>intro hj;exact (ih (by omega)).gcd2 (Ua h (by omega))
theorem Vg(h:∀ j,j<cols->Sz m (E (i*cols+j))):ZB (1+cols*m+m) (Sn E cols i:Int):=by
 unfold Sn
 split
 ·exact ZB.one (by omega)
 ·exact A6f h cols (Nat.le_refl _)
theorem B2p(h:∀ j,j<cols->Sz m (E (i*cols+j))){j:Nat}(hj:j<cols):ZB (1+cols*m+m) (Wa E cols i j):=(Ua h hj).tdiv
theorem Zx(h:∀ j,j<cols->Sz m (E (i*cols+j))):Sz (1+cols*m+m) (Qz E cols i):=by
 have:=Oc E cols i
 exact Da (by omega) ((Uj (f:=A1t E cols i) cols h).mono (by omega)) (Vg h)
end
structure EsOk (g:Heap) (E:Nat->Rat) (cols k:Nat) (es:List IV) (V:Nat->Int) (j:Nat):Prop where
 len:es.length=k*cols+j
 rows:∀ a b,a<k->b<cols->∃ w,es[a*cols+b]? = some w/\ZIr g w (Wa E cols a b)
 last:∀ b,b<j->∃ w,es[k*cols+b]? = some w/\ZIr g w (V b)
theorem EsOk.mono{g g':Heap}{E:Nat->Rat}{cols k j:Nat}{es:List IV}{V:Nat->Int}(e:EsOk g E cols k es V j)(l:g.le g'):EsOk g' E cols k es V j:=by
 refine ⟨e.len,fun a b h1 h2=>?_,fun b h1=>?_⟩
 ·obtain ⟨w,e1,hw⟩:=e.rows a b h1 h2;exact ⟨w,e1,A3h _ _ _ _ l hw⟩
 ·obtain ⟨w,e1,hw⟩:=e.last b h1;exact ⟨w,e1,A3h _ _ _ _ l hw⟩
theorem EsOk.push{g:Heap}{E:Nat->Rat}{cols k j:Nat}{es:List IV}{V:Nat->Int}(e:EsOk g E cols k es V j){w:IV}(hw:ZIr g w (V j)):EsOk g E cols k (es++[w]) V (j+1):=by
 have hl:=e.len
 refine ⟨by rw [List.length_append,e.len];rfl,fun a b h1 h2=>?_,fun b h1=>?_⟩
 ·obtain ⟨u,e1,hu⟩:=e.rows a b h1 h2
  have hlt:=S7 h1 h2
  exact ⟨u,by rw [List.getElem?_append_left (by omega)];exact e1,hu⟩
 ·by_cases eb:b=j
  ·subst eb
   exact ⟨w,by rw [List.getElem?_append_right (by omega),hl];simp,hw⟩
  ·obtain ⟨u,e1,hu⟩:=e.last b (by omega)
   exact ⟨u,by rw [List.getElem?_append_left (by omega)];exact e1,hu⟩
theorem EsOk.set{g:Heap}{E:Nat->Rat}{cols k:Nat}{es:List IV}{V:Nat->Int}(e:EsOk g E cols k es V cols){b:Nat}(hb:b<cols){w:IV}{z:Int}(hw:ZIr g w z):EsOk g E cols k (es.set (k*cols+b) w) (fun x=>if x=b then z else V x) cols:=by
 have hl:=e.len
 refine ⟨by simpa using hl,fun a b' h1 h2=>?_,fun b' h1=>?_⟩
 ·obtain ⟨u,e1,hu⟩:=e.rows a b' h1 h2
  have hlt:=S7 h1 h2
  exact ⟨u,by rw [List.getElem?_set_ne (by omega)];exact e1,hu⟩
 ·by_cases eb:b'=b
  ·subst eb
   exact ⟨w,by rw [List.getElem?_set_self (by omega)],by show ZIr g w (if b'=b' then z else V b');rw [if_pos rfl];exact hw⟩
  ·obtain ⟨u,e1,hu⟩:=e.last b' h1
   exact ⟨u,by rw [List.getElem?_set_ne (by omega)];exact e1,by show ZIr g u (if b'=b then z else V b');rw [if_neg eb];exact hu⟩
theorem EsOk.congr{g:Heap}{E:Nat->Rat}{cols k j:Nat}{es:List IV}{V V':Nat->Int}(e:EsOk g E cols k es V j)(h:∀ b,b<j->V b=V' b):EsOk g E cols k es V' j:=
 ⟨e.len,e.rows,fun b hb=>by rw [<- h b hb];exact e.last b hb⟩
theorem EsOk.next{g:Heap}{E:Nat->Rat}{cols k:Nat}{es:List IV}{V:Nat->Int}(e:EsOk g E cols k es V cols)(h:∀ b,b<cols->V b=Wa E cols k b)(V':Nat->Int):EsOk g E cols (k+1) es V' 0:=by
 refine ⟨by rw [e.len,Nat.add_mul,Nat.one_mul];rfl,fun a b h1 h2=>?_,fun b h1=>by omega⟩
 by_cases ea:a=k
 ·subst ea;rw [<- h b h2];exact e.last b h2
 ·exact e.rows a b (by omega) h2
section
variable {h g:Heap} {K:Value->Heap->Prop} {A:Option Addr} {n c rows cols m:Nat} {E:Nat->Rat}
theorem Ue(gl:Gl h)(r:RowV RQr h A (rows*cols) E)(hcap:rows*cols<=c)(hr:1<=rows)(hr2:rows<=10000)(hc:1<=cols)(hc2:cols<=10000)(hs:∀ i,i<rows*cols->Sz m (E i))(hm:1+cols*m+m<=6400000000)
 (hK:∀ h' g' o' T,h.le g'->Tab h' g' o' T (Wa E cols) (Qz E cols)->T.rows=rows->T.cols=cols->K (.pointer (some ⟨T.bt,0,none⟩)) h'):FCall Tryz.prog Hx #[.slice A (rows*cols) c,I (cols:Int)] h K:=by
 refine Yy _ _ _ _ ?_
 unfold Yz
 have hrc:rows*cols<=100000000:=by
  have:rows*cols<=10000*10000:=Nat.mul_le_mul hr2 hc2
  omega
 refine Vh ?_
 intro bt hbt
 refine ⟨_,rfl,Jw (z:=.pointer none) (by kernel_rfl) ?_⟩
 intro bp hbp
 have hne:bp≠bt:=by rintro rfl;rw [C3] at hbp;cases hbp
 refine ⟨_,rfl,?_⟩
 refine Cf (by kernel_rfl) (by kernel_rfl) rfl rfl (by decide) ?_
 have s0:=((Sep.refl h).new hbt (.cells (Value.cells (.agg #[I (cols:Int),.slice none 0 0,.slice none 0 0])) Of)).new hbp (.cells ((Value.cells (.pointer none)).setIfInBounds 0 (.pointer (some ⟨bt,0,none⟩))) Kp)
 have n0:NT ((Xf.put bt (.cells (Value.cells (.agg #[I (cols:Int),.slice none 0 0,.slice none 0 0])) Of)).put bp (.cells ((Value.cells (.pointer none)).setIfInBounds 0 (.pointer (some ⟨bt,0,none⟩))) Kp)) bp bt cols [] [] none 0 none 0:=
  ⟨⟨_,C3 _ _ _⟩,⟨_,by rw [B8 _ _ hne.symm,C3];rfl⟩,OwnSl.nil,OwnSl.nil,hne,⟨by simp,by simp⟩,⟨by simp,by simp⟩,fun b hb=>by cases hb⟩
 generalize (Xf.put bt (.cells (Value.cells (.agg #[I (cols:Int),.slice none 0 0,.slice none 0 0])) Of)).put bp (.cells ((Value.cells (.pointer none)).setIfInBounds 0 (.pointer (some ⟨bt,0,none⟩))) Kp)=o0 at s0 n0
 refine s0.call (A3q hc ?_)
 intro v g0 l0 ic hp3 s3
 have bound:∀ k,k<rows->∀ j,j<cols->Sz m (E (k*cols+j)):=fun k hk j hj=>hs _ (S7 hk hj)
 refine ⟨_,rfl,A0a ic hc (by omega) hcap (fun k hp=>∃ (g1 o1:Heap) (es:List IV) (ss:List QV) (A1:Option Addr) (c1:Nat) (A2:Option Addr) (c2:Nat),g0.le g1/\Sep hp g1 o1/\NT o1 bp bt cols es ss A1 c1 A2 c2/\EsOk g1 E cols k es (fun _=>0) 0/\ss.length=k/\Row RQr g1 ss k (Qz E cols)) ?_ ?_ ?_ ?_⟩
 ·exact ⟨g0,o0,[],[],none,0,none,0,B3 _,s3,n0,⟨by simp,fun a b h1=>by omega,fun b h1=>by omega⟩,rfl,Row.nil⟩
 ·rintro k hp ⟨g1,o1,es,ss,A1,c1,A2,c2,lg,s1,_⟩
  exact A0 lg s1.le
 ·rintro k hp4 hkr ⟨g1,o1,es,ss,A1,c1,A2,c2,lg1,s4,n1,e1,hss,rs⟩
  have bk:=bound k hkr
  have hkc:(k+1)*cols<=rows*cols:=Nat.mul_le_mul_right _ hkr
  have hk1:(k+1)*cols=k*cols+cols:=by rw [Nat.add_mul,Nat.one_mul]
  have hkc2:k<=k*cols:=Nat.le_mul_of_pos_right k hc
  have lh1:=A0 l0 lg1
  have row0:RowV RQr h A ((k+1)*cols) E:=by
   have:=r.cut (c:=c) (l:=0) (k:=(k+1)*cols) (by omega) hcap
   rw [I3] at this
   exact this.congr fun i _=>by rw [Nat.zero_add]
  have row1:RowV RQr h (J6 A ((k+1)*cols) (k*cols) 4) cols (A1t E cols k):=row0.cut (c:=(k+1)*cols) (l:=k*cols) (k:=cols) (by omega) (Nat.le_refl _)
  refine ⟨_,_,_,rfl,s4.call (Rj (gl.mono lh1) (row1.mono Z2 lh1) (by omega) bk hm ?_)⟩
  intro sd Ad nd cd g2 l2 id hp5 s5
  have cE:=n1.c1 s5
  rw [e1.len,Nat.add_zero] at cE
  have d2:=Uj (f:=A1t E cols k) cols bk
  have hmk:1+cols*m<=1+cols*m+m:=by omega
  refine ⟨_,_,_,_,rfl,_,n1.cp s5,_,rfl,_,_,_,cE,fun L hp=>∃ (j:Nat) (s:Bool) (B:Option Addr) (bn bc:Nat) (g3 o3:Heap) (es:List IV) (A1:Option Addr) (c1:Nat),j<=cols/\L=[I (j:Int),.bool s,.slice B bn bc]/\g2.le g3/\Sep hp g3 o3/\NT o3 bp bt cols es ss A1 c1 A2 c2/\EsOk g3 E cols k es (A5i E cols k) j/\ZI g3 s B bn bc (A8p E cols k j:Int),
   fun L _=>cols-(iAt L 0).toNat,⟨0,false,none,0,0,g2,o1,es,A1,c1,by omega,rfl,B3 _,s5,n1,(e1.mono l2).congr (fun b hb=>by omega),ZI.zero⟩,?_⟩
  rintro z bs bA bn bc hp6 ⟨j,sB,B,bn',bc',g3,o3,es3,A3,c3,hj,eL,l3,s6,n3,e3,i3⟩
  simp only [List.cons.injEq,Value.int.injEq,Value.bool.injEq,Value.slice.injEq,true_and,and_true] at eL
  obtain ⟨rfl,rfl,rfl,rfl,rfl⟩:=eL
  have ewj:B4 ((j:Int)+1)=((j+1:Nat):Int):=by rw [B5]<;>omega
  have lh3:=A0 lh1 (A0 l2 l3)
  refine B6 (fun hlt=>?_) (fun hge=>?_)
  ·have hjc:j<cols:=by omega
   obtain ⟨a,w,ea,iw,q0,q1,q2,q3⟩:=row1.qat hjc
   have lh6:=A0 lh3 s6.le
   refine ⟨a,ea,by omega,by omega,_,_,_,_,_,_,_,_,D5 lh6 q0,D5 lh6 q1,D5 lh6 q2,D5 lh6 q3,?_⟩
   refine s6.call (A03 (m:=1+cols*m+m) (Z2 _ _ _ _ lh3 iw) (id.mono l3) ((bk j hjc).mono (by omega)) (d2.mono hmk) hm ?_)
   intro s7 A7 n7 c7 g7 l7 i7 hp7 sp7
   refine ⟨_,_,_,_,rfl,sp7.call (Bz (gl.mono (A0 lh3 l7)).tz (i3.mono l7) i7 (A6f bk j hj) (Ua bk hjc) hm ?_)⟩
   intro A8 n8 c8 g8 l8 i8 hp8 sp8
   have z7:ZIr g8 ⟨s7,A7,n7,c7⟩ (A5i E cols k j):=i7.mono l8
   have hF:∀ h' g' o' A2' c2',g8.le g'->Sep h' g' o'->NT o' bp bt cols (es3++[⟨s7,A7,n7,c7⟩]) ss A2' c2' A2 c2->(∃ (j':Nat) (s:Bool) (B:Option Addr) (bn bc:Nat) (g3 o3:Heap) (es:List IV) (A1:Option Addr) (c1:Nat),j'<=cols/\[I (B4 ((j:Int)+1)),.bool false,.slice A8 n8 c8]=[I (j':Int),.bool s,.slice B bn bc]/\g2.le g3/\Sep h' g3 o3/\NT o3 bp bt cols es ss A1 c1 A2 c2/\EsOk g3 E cols k es (A5i E cols k) j'/\ZI g3 s B bn bc (A8p E cols k j':Int))/\cols-(iAt [I (B4 ((j:Int)+1)),.bool false,.slice A8 n8 c8] 0).toNat<cols-(iAt [I (j:Int),.bool bs,.slice bA bn bc] 0).toNat:=by
    intro h' g' o' A2' c2' lg' s' n'
    rw [ewj]
    refine ⟨⟨j+1,false,A8,n8,c8,g',o',_,A2',c2',by omega,rfl,A0 l3 (A0 l7 (A0 l8 lg')),s',n',((e3.mono (A0 l7 l8)).push z7).mono lg',i8.mono lg'⟩,by simp only [Re];omega⟩
   have hel:es3.length<=100000000:=by have:=e3.len;omega
   refine ⟨_,_,_,_,rfl,_,n3.cp sp8,_,rfl,_,_,_,n3.c1 sp8,⟨_,n3.cp sp8,?_⟩,?_⟩
   ·exact n3.buildE sp8 ⟨s7,A7,n7,c7⟩ hel hF fun B m d hp lp cp happ=>⟨_,_,_,rfl,lp,happ fun A2 c2 h2 _ hst=>⟨_,_,_,rfl,_,rfl,hst⟩⟩
   ·exact n3.buildE sp8 ⟨s7,A7,n7,c7⟩ hel hF fun B m d hp lp cp happ=>⟨_,_,_,rfl,lp,⟨_,cp,happ fun A2 c2 h2 _ hst=>⟨_,_,_,rfl,_,rfl,hst⟩⟩,happ fun A2 c2 h2 cp2 hst=>⟨_,_,_,rfl,_,cp2,_,rfl,hst⟩⟩
  ·have hjc:j=cols:=by omega
   subst hjc
   have hg:((A8p E j k j:Nat):Int)=0↔A8p E j k j=0:=by omega
   refine ⟨fun L hp=>∃ (s:Bool) (B:Option Addr) (bn bc:Nat) (g4:Heap),L=[.bool s,.slice B bn bc]/\g3.le g4/\Sep hp g4 o3/\ZI g4 s B bn bc (Sn E j k:Int),?_,?_⟩
   ·refine s6.call (F5 i3 ?_)
    intro hp7 s7
    refine ⟨_,rfl,B6 (fun e=>?_) (fun e=>?_)⟩
    ·refine s7.call (Ev (by omega) (by omega) ?_)
     intro s8 A8 n8 c8 g8 l8 i8 hp8 sp8
     refine ⟨_,_,_,_,rfl,_,_,_,_,g8,rfl,l8,sp8,?_⟩
     have:Sn E j k=1:=by unfold Sn;rw [if_pos (hg.1 e)]
     rw [this];exact i8
    ·refine ⟨_,_,_,_,g3,rfl,B3 _,s7,?_⟩
     have:Sn E j k=A8p E j k j:=by unfold Sn;rw [if_neg (fun x=>e (hg.2 x))]
     rw [this];exact i3
   ·rintro cs cA cn cc hp7 ⟨cs',cA',cn',cc',g4,eL,l4,s7,ic⟩
    obtain ⟨rfl,rfl,rfl,rfl⟩:cs=cs'/\cA=cA'/\cn=cn'/\cc=cc':=by simpa using eL
    have e4:=e3.mono l4
    have cE4:=n3.c1 s7
    rw [e4.len] at cE4
    have hne4:es3≠[]:=by rintro rfl;have:=e4.len;simp at this;omega
    obtain ⟨bE,hbE,rB⟩:=n3.oe.rowB hne4
    subst hbE
    have hc3:k*j+j<=c3:=by have:=n3.oe.1;rw [e4.len] at this;exact this
    have ekn:(((k*j:Nat):Int)).toNat=k*j:=rfl
    have ecut:J6 (some ⟨bE,0,none⟩) c3 ((((k*j:Nat):Int)).toNat) 2=some ⟨bE,k*j*2,none⟩:=by rw [ekn,Xz (by omega),D8,Nat.zero_add]
    have esub:k*j+j-(((k*j:Nat):Int)).toNat=j:=by rw [ekn];omega
    refine ⟨_,n3.cp s7,_,rfl,_,_,_,cE4,⟨by omega,by omega⟩,?_⟩
    rw [ecut,esub]
    refine ⟨fun L hp=>∃ (jj:Nat) (g o:Heap) (es:List IV),jj<=j/\L=[I (jj:Int)]/\g4.le g/\Sep hp g o/\NT o bp bt j es ss (some ⟨bE,0,none⟩) c3 A2 c2/\EsOk g E j k es (fun b=>if b<jj then Wa E j k b else A5i E j k b) j,fun L _=>j-(iAt L 0).toNat,⟨0,g4,o3,es3,by omega,rfl,B3 _,s7,n3,e4.congr fun b hb=>by rw [if_neg (by omega)]⟩,?_⟩
    rintro z hp8 ⟨jj,g5,o5,es5,hjj,eL,l5,s8,n5,e5⟩
    obtain rfl:z=(jj:Int):=by simpa using eL
    have ewj2:B4 ((jj:Int)+1)=((jj+1:Nat):Int):=by rw [B5]<;>omega
    have ewk:B4 (((k*j:Nat):Int)+(jj:Int))=((k*j+jj:Nat):Int):=by rw [B5]<;>omega
    have cE5:=n5.c1 s8
    rw [e5.len] at cE5
    have hcom0:=Oc E j k
    refine B6 (fun hlt=>?_) (fun hge=>?_)
    ·have hjc:jj<j:=by omega
     obtain ⟨w,ew,iw⟩:=e5.last jj hjc
     rw [if_neg (Nat.lt_irrefl jj)] at iw
     obtain ⟨bE',hbE',rB5⟩:=n5.oe.rowB (by rintro rfl;have:=e5.len;simp at this;omega)
     simp only [Option.some.injEq,Addr.mk.injEq,and_true] at hbE'
     subst hbE'
     have hlt5:k*j+jj<es5.length:=by have:=e5.len;omega
     have hew:es5[k*j+jj]=w:=by
      rw [List.getElem?_eq_getElem hlt5] at ew
      cases ew;rfl
     have ha:k*j*2+jj*2=(k*j+jj)*2:=by rw [Nat.add_mul]
     have cell:∀ x v,(enc w)[x]? = some v->hp8.cell? (Addr.add (Addr.add ⟨bE,k*j*2,none⟩ (((jj:Int)).toNat*2)) x)=some v:=by
      intro x v hx
      refine s8.cell ?_
      rw [D8,D8]
      show o5.cell? ⟨bE,k*j*2+jj*2+x,none⟩=_
      rw [ha]
      exact rB5.cell hlt5 (by rw [hew];exact hx)
     refine ⟨_,rfl,by omega,by omega,_,_,_,_,cell 0 _ rfl,cell 1 _ rfl,_,n5.cp s8,_,rfl,_,_,_,cE5,?_⟩
     refine s8.call (N8 iw (ic.mono l5) (Ua bk hjc) (Vg bk) hm (by omega) ?_)
     intro s9 A9 n9 c9 g9 l9 i9 hp9 sp9
     refine ⟨_,_,_,_,rfl,s8.le_le sp9 l9,_,rfl,by omega,by omega,?_⟩
     rw [ewk]
     refine OwnSl.store Zy (y:=(⟨s9,A9,n9,c9⟩:IV)) rfl sp9 n5.oe hlt5 rfl ?_
     intro hp10 o10 s10 ow10 ko
     obtain ⟨x1,hx1⟩:=n5.hp
     obtain ⟨x2,hx2⟩:=n5.ht
     have b1:bp≠bE:=fun e=>n5.a1.1 (by rw [e])
     have b2:bt≠bE:=fun e=>n5.a1.2 (by rw [e])
     rw [ewj2]
     refine ⟨⟨jj+1,g9,o10,es5.set (k*j+jj) ⟨s9,A9,n9,c9⟩,by omega,rfl,A0 l5 l9,s10,⟨⟨x1,by rw [ko _ b1];exact hx1⟩,⟨x2,by rw [ko _ b2,List.length_set];exact hx2⟩,ow10,n5.os.keep fun b x hb hx=>by rw [ko b (fun e=>n5.a3 bE rfl (by rw [<- e];exact hb))];exact hx,n5.ne,n5.a1,n5.a2,n5.a3⟩,((e5.mono l9).set hjc (show ZIr g9 ⟨s9,A9,n9,c9⟩ (Wa E j k jj) from i9)).congr fun b hb=>?_⟩,by simp only [Re];omega⟩
     show (if b=jj then Wa E j k jj else if b<jj then Wa E j k b else A5i E j k b)=if b<jj+1 then Wa E j k b else A5i E j k b
     by_cases eb:b=jj
     ·subst eb;rw [if_pos rfl,if_pos (by omega)]
     ·rw [if_neg eb]
      by_cases h7:b<jj
      ·rw [if_pos h7,if_pos (by omega)]
      ·rw [if_neg h7,if_neg (by omega)]
    ·have hje:jj=j:=by omega
     subst hje
     have eN:EsOk g5 E jj (k+1) es5 (fun _=>0) 0:=e5.next (fun b hb=>by rw [if_pos hb]) _
     have sS:=Zx (E:=E) (cols:=jj) (i:=k) bk
     have fr:∀ (gg:Heap) (w:QV),g5.le gg->RQ gg w (Rat.divInt (Ra (A1t E jj k) jj:Int) (Sn E jj k:Int))->∀ h' g' o' A2' c2',gg.le g'->Sep h' g' o'->NT o' bp bt jj es5 (ss++[w]) (some ⟨bE,0,none⟩) c3 A2' c2'->∃ (g1 o1:Heap) (es:List IV) (ss:List QV) (A1:Option Addr) (c1:Nat) (A2:Option Addr) (c2:Nat),g0.le g1/\Sep h' g1 o1/\NT o1 bp bt jj es ss A1 c1 A2 c2/\EsOk g1 E jj (k+1) es (fun _=>0) 0/\ss.length=k+1/\Row RQr g1 ss (k+1) (Qz E jj):=by
      intro gg w lgg iw h' g' o' A2' c2' lg' s' n'
      have lall:g1.le g':=A0 l2 (A0 l3 (A0 l4 (A0 l5 (A0 lgg lg'))))
      refine ⟨g',o',es5,ss++[w],_,c3,A2',c2',A0 lg1 lall,s',n',eN.mono (A0 lgg lg'),by simp [hss],?_⟩
      have rs':Row RQr g' ss ss.length (Qz E jj):=by rw [hss];exact rs.mono Z2 lall
      have:=rs'.push (w:=w) (by rw [hss];exact Z2 _ _ _ _ lg' iw)
      rw [List.length_append,hss] at this
      exact this
     have glf:=(gl.mono (A0 lh3 (A0 l4 l5))).tz
     have idf:=(id.mono (A0 l3 (A0 l4 l5)))
     have hsl:ss.length<=100000000:=by omega
     refine ⟨_,n5.cp s8,_,rfl,_,_,_,n5.c2 s8,⟨_,n5.cp s8,?_⟩,?_⟩
     ·refine s8.call (Dq glf idf (ic.mono l5) (d2.mono hmk) (Vg bk) hm ?_)
      intro w gf lf iw hp9 s9
      refine ⟨_,_,_,_,_,_,_,_,rfl,s8.le_le s9 lf,?_⟩
      exact n5.buildS s9 w hsl (fr gf w lf iw) fun B m d hp lp cp happ=>⟨_,_,_,rfl,lp,happ fun A2 c2 h2 _ hst=>⟨_,_,_,rfl,_,rfl,hst⟩⟩
     ·refine s8.call (Dq glf idf (ic.mono l5) (d2.mono hmk) (Vg bk) hm ?_)
      intro w gf lf iw hp9 s9
      refine ⟨_,_,_,_,_,_,_,_,rfl,s8.le_le s9 lf,⟨_,n5.cp s9,?_⟩,?_⟩
      ·exact n5.buildS s9 w hsl (fr gf w lf iw) fun B m d hp lp cp happ=>⟨_,_,_,rfl,lp,happ fun A2 c2 h2 _ hst=>⟨_,_,_,rfl,_,rfl,hst⟩⟩
      ·exact n5.buildS s9 w hsl (fr gf w lf iw) fun B m d hp lp cp happ=>⟨_,_,_,rfl,lp,⟨_,cp,happ fun A2 c2 h2 _ hst=>⟨_,_,_,rfl,_,rfl,hst⟩⟩,happ fun A2 c2 h2 cp2 hst=>⟨_,_,_,rfl,_,cp2,_,rfl,hst⟩⟩
 ·rintro hp ⟨g1,o1,es,ss,A1,c1,A2,c2,lg,s1,n1,e1,hss,rs⟩
  refine ⟨_,n1.cp s1,?_⟩
  have hel:es.length=rows*cols:=by rw [e1.len];rfl
  have hpos:0<rows*cols:=Nat.mul_pos (by omega) (by omega)
  obtain ⟨bE,hbE,rE⟩:=n1.oe.rowB (by rintro rfl;simp at hel;omega)
  obtain ⟨bS,hbS,rS⟩:=n1.os.rowB (by rintro rfl;simp at hss;omega)
  subst hbE hbS
  obtain ⟨x2,hx2⟩:=n1.ht
  refine hK hp g1 o1 ⟨bt,bE,bS,rows,cols,c1,c2⟩ (A0 l0 lg) ⟨s1,fun (e:bt=bE)=>n1.a1.2 (by rw [<- e]),fun (e:bt=bS)=>n1.a2.2 (by rw [<- e]),fun (e:bE=bS)=>n1.a3 bE rfl (by rw [e]),⟨x2,by rw [hx2,hel,hss]⟩,⟨es,rE,hel,fun i j hi hj=>e1.rows i j hi hj⟩,⟨ss,rS,hss,rs⟩,by rw [<- hel];exact n1.oe.1,by rw [<- hss];exact n1.os.1,⟨hr2,hc2⟩,hc⟩ rfl rfl
end
def B9s(c:Array Value):Prop:=∀ (i:Nat) (n:Int),c[i]? ≠ some (Value.int .u64 n)
structure MOk (r c:Int) (n:Nat) (ls:Nat->List UInt8) (rows cols:Nat):Prop where
 er:r=rows
 ec:c=cols
 r1:1<=rows
 r2:rows<=64
 c1:1<=cols
 c2:cols<=64
 len:n=rows*cols
 num:∀ i,i<n->IsNum (ls i)
def A1c(r c:Int)(n:Nat):Prop:=1<=r/\r<=64/\1<=c/\c<=64/\(n:Int)=r*c
theorem MOk.of{r c:Int}{n:Nat}{ls:Nat->List UInt8}(s:A1c r c n)(h:∀ i,i<n->IsNum (ls i)):MOk r c n ls r.toNat c.toNat:=by
 obtain ⟨h1,h2,h3,h4,h5⟩:=s
 refine ⟨by omega,by omega,by omega,by omega,by omega,by omega,?_,h⟩
 have e1:(r.toNat:Int)=r:=by omega
 have e2:(c.toNat:Int)=c:=by omega
 have:((r.toNat*c.toNat:Nat):Int)=r*c:=by rw [Int.natCast_mul,e1,e2]
 omega
theorem MOk.shape{r c:Int}{n:Nat}{ls:Nat->List UInt8}{rows cols:Nat}(m:MOk r c n ls rows cols):A1c r c n:=by
 obtain ⟨rfl,rfl,h1,h2,h3,h4,h5,_⟩:=m
 exact ⟨by omega,by omega,by omega,by omega,by rw [h5,Int.natCast_mul]⟩
abbrev A9r(r c:Int)(A:Option Addr)(n cap:Nat):Value:=.agg #[I r,I c,.slice A n cap]
def Mx(r c:Int)(n:Nat)(ls:Nat->List UInt8):Prop:=∃ rows cols,MOk r c n ls rows cols
theorem A2s{r c:Int}{n:Nat}{ls:Nat->List UInt8}:Mx r c n ls↔A1c r c n/\∀ i,i<n->IsNum (ls i):=by
 constructor
 ·rintro ⟨rows,cols,m⟩;exact ⟨m.shape,m.num⟩
 ·rintro ⟨s,h⟩;exact ⟨_,_,MOk.of s h⟩
section
variable {h:Heap} {K:Value->Heap->Prop} {A:Option Addr} {n cap m:Nat} {r c:Int} {ls:Nat->List UInt8}
theorem Ul(hn:n<=1000000000)(hK1:A1c r c n->K (.bool true) h)(hK0:¬ A1c r c n->K (.bool false) h):FCall Tryz.prog Hy #[A9r r c A n cap] h K:=by
 refine Za _ _ _ _ _ ?_
 unfold Zb
 refine B6 (fun h1=>B6 (fun h2=>B6 (fun h3=>B6 (fun h4=>?_) (fun e=>hK0 fun s=>e s.2.2.2.1)) (fun e=>hK0 fun s=>e s.2.2.1)) (fun e=>hK0 fun s=>e s.2.1)) (fun e=>hK0 fun s=>e s.1)
 have hrc:r*c<=64*64:=Int.mul_le_mul h2 h4 (by omega) (by omega)
 have hrc0:0<=r*c:=Int.mul_nonneg (by omega) (by omega)
 have ew:B4 (r*c)=r*c:=B5 (by omega) (by omega)
 rw [ew]
 by_cases e:(n:Int)=r*c
 ·rw [show ((n:Int)==r*c)=true by simpa using e]
  exact hK1 ⟨h1,h2,h3,h4,e⟩
 ·rw [show ((n:Int)==r*c)=false by simpa using e]
  exact hK0 fun s=>e s.2.2.2.2
theorem A3g(gl:Gl h)(rv':RowV SSr h A n ls)(hn:n<=1000000)(hl:∀ i,i<n->(ls i).length<=100000000)
 (hK1:∀ rows cols,MOk r c n ls rows cols->∀ b h',Own RQr h h' b n (fun i=>rv (ls i))->K (.tuple #[.slice (some ⟨b,0,none⟩) n n,.bool true]) h')
 (hK0:¬ Mx r c n ls->∀ h',h.le h'->K (.tuple #[.slice none 0 0,.bool false]) h'):FCall Tryz.prog A0s #[A9r r c A n cap] h K:=by
 refine B0x _ _ _ _ _ ?_
 unfold B6h
 refine Ul (by omega) (fun s=>⟨_,rfl,?_⟩) (fun s=>⟨_,rfl,hK0 (fun x=>s (A2s.1 x).1) h (B3 _)⟩)
 refine Xa gl rv' hn hl (fun hnum b h' w=>⟨_,_,_,_,rfl,hK1 _ _ (MOk.of s hnum) b h' w⟩) (fun hno h' l=>⟨_,_,_,_,rfl,hK0 (fun x=>hno (A2s.1 x).2) h' l⟩)
end
end Go.Proofs.YtajkakhfcokljaaGreatDoor
namespace Go.Proofs.YtajkakhfcokljaaGreatDoor
set_option maxRecDepth 20000
def ZrE(n c:Nat)(s:ES):Prop:=∀ i j,i<n->s.cs.length<=i->j<c->s.R i j=0
structure EqA (n w c:Nat) (A:Nat->Nat->Rat) (s:ES):Prop where
 len:s.cs.length<=n
 zero:ZrE n c s
 lt:∀ x∈s.cs,x<c
 elim:∃ B,Elim n w B s.R (fun m=>s.cs.getD m 0) s.cs.length/\(∀ i,i<n->∃ i',i'<n/\∀ j,B i' j=A i j)/\(∀ i,i<n->∃ i',i'<n/\∀ j,B i j=A i' j)
 comb:∃ T:Nat->Nat->Rat,∀ i j,i<n->j<w->s.R i j=sm n fun l=>T i l*A l j
def mtx(E:Nat->Rat)(cols:Nat):Nat->Nat->Rat:=fun i j=>E (i*cols+j)
def elE(E:Nat->Rat)(rows cols c:Nat):ES:=B53 rows ⟨mtx E cols,[],1⟩ c
def elP(E:Nat->Rat)(rows cols c:Nat):PS:=B6p rows ⟨Wa E cols,Qz E cols,[],1,1⟩ c
theorem A6w(E:Nat->Rat){rows cols c:Nat}(hc:c<=cols):ERel rows cols c (mtx E cols) (elE E rows cols c) (elP E rows cols c):=
 (ERel.start (fun i j _ hj=>B2q E cols i hj) (fun i _=>by have:=Nu E cols i;grind)).run c hc
theorem B8a(E:Nat->Rat){rows cols c:Nat}(hc:c<=cols):(elP E rows cols c).cs=(elE E rows cols c).cs:=(A6w E hc).cs.symm
def bnd(cols m:Nat):Nat:=1+cols*m+m
theorem B89{E:Nat->Rat}{rows cols m:Nat}(h:∀ i,i<rows*cols->Sz m (E i)):ZbP rows cols (bnd cols m) (bnd cols m) ⟨Wa E cols,Qz E cols,[],1,1⟩:=by
 have hb:∀ i,i<rows->∀ j,j<cols->Sz m (E (i*cols+j)):=fun i hi j hj=>h _ (S7 hi hj)
 refine ⟨fun a b ha hb'=>?_,?_,fun a ha=>Zx (hb a ha),Nat.zero_le _⟩
 ·show ZB (3^0*bnd cols m) (Wa E cols a b)
  rw [Nat.pow_zero,Nat.one_mul];exact B2p (hb a ha) hb'
 ·show ZB (3^0*bnd cols m) 1
  exact ZB.one (by unfold bnd;omega)
theorem B5t{E:Nat->Rat}{rows cols m c:Nat}(h:∀ i,i<rows*cols->Sz m (E i))(hc:c<=cols):ZbP rows cols (bnd cols m) (bnd cols m) (elP E rows cols c):=(B89 h).run (by unfold bnd;omega) c hc
structure Own2 (h h':Heap) (b n:Nat) (f:Nat->List UInt8) (A:Option Addr) (cap:Nat) (l:List Int):Prop where
 ex:∃ g o xs,h.le g/\Sep h' g o/\RowX o b xs/\xs.length=n/\Row SSr g xs n f/\OwnSl o Kq A cap l/\A≠some ⟨b,0,none⟩
theorem Own2.le{h h':Heap}{b n:Nat}{f:Nat->List UInt8}{A:Option Addr}{cap:Nat}{l:List Int}(w:Own2 h h' b n f A cap l):h.le h':=by
 obtain ⟨g,o,xs,lg,s,_⟩:=w.ex
 exact A0 lg s.le
theorem Own2.own{h h':Heap}{b n:Nat}{f:Nat->List UInt8}{A:Option Addr}{cap:Nat}{l:List Int}(w:Own2 h h' b n f A cap l):Own SSr h h' b n f:=by
 obtain ⟨g,o,xs,lg,s,r,e,q,_⟩:=w.ex
 exact ⟨g,o,xs,lg,s,r,e,q⟩
section
variable {h g o:Heap} {T:Tb} {M:Nat->Nat->Int} {S:Nat->Rat}
end
section
variable {h:Heap} {K:Value->Heap->Prop} {A:Option Addr} {n cap m:Nat} {r c:Int} {ls:Nat->List UInt8}
abbrev rvs(ls:Nat->List UInt8):Nat->Rat:=fun i=>rv (ls i)
end
def B19(o:Heap)(A:Option Addr):Heap:=fun k=>if A=some ⟨k,0,none⟩ then o k else none
theorem B4p{α:Type}[E:Enc α]{o:Heap}{e:TypeId}{A:Option Addr}{c:Nat}{xs:List α}(w:OwnSl o e A c xs):OwnSl (B19 o A) e A c xs:=w.keep fun b x hA hb=>by unfold B19;rw [if_pos hA];exact hb
section
variable {h:Heap} {K:Value->Heap->Prop} {A:Option Addr} {n cap m:Nat} {r c:Int} {ls:Nat->List UInt8}
end
theorem A4x:N5 0=[48]:=by simp [N5,Im,L5]
section
variable {h:Heap} {K:Value->Heap->Prop} {A:Option Addr} {n cap m:Nat} {r c:Int} {ls:Nat->List UInt8}
end
structure HV where
 A:Option Addr
 n:Nat
 c:Nat
abbrev HV.v(s:HV):Value:=.slice s.A s.n s.c
instance:Enc HV:=⟨⟨fun s=>[.slice s.A s.n s.c],1,fun _=>rfl,fun s v hv=>by rw [List.mem_singleton.1 hv];rfl⟩⟩
def RowsV(h:Heap)(A:Option Addr)(n w:Nat)(M:Nat->Nat->Rat):Prop:=∃ hd:List HV,SlF h A hd/\hd.length=n/\∀ i,i<n->∃ s,hd[i]? = some s/\s.n=w/\w<=s.c/\RowV NQr h s.A w (M i)
theorem RowsV.mono{h h':Heap}{A:Option Addr}{n w:Nat}{M:Nat->Nat->Rat}(l:h.le h')(r:RowsV h A n w M):RowsV h' A n w M:=by
 obtain ⟨hd,s,e,r⟩:=r
 refine ⟨hd,s.mono l,e,fun i hi=>?_⟩
 obtain ⟨s,e1,e2,e3,r⟩:=r i hi
 exact ⟨s,e1,e2,e3,r.mono A0f l⟩
theorem RowsV.congr{h:Heap}{A:Option Addr}{n w:Nat}{M M':Nat->Nat->Rat}(r:RowsV h A n w M)(e:∀ i j,i<n->j<w->M i j=M' i j):RowsV h A n w M':=by
 obtain ⟨hd,s,e1,r⟩:=r
 refine ⟨hd,s,e1,fun i hi=>?_⟩
 obtain ⟨s,e1,e2,e3,r⟩:=r i hi
 exact ⟨s,e1,e2,e3,r.congr fun j hj=>e i j hi hj⟩
theorem RowsV.at{h:Heap}{A:Option Addr}{n w:Nat}{M:Nat->Nat->Rat}(r:RowsV h A n w M){i:Nat}(hi:i<n):∃ (a:Addr) (s:HV),A=some a/\s.n=w/\w<=s.c/\h.cell? (Addr.add a (i*1))=some (.slice s.A s.n s.c)/\RowV NQr h s.A w (M i):=by
 obtain ⟨hd,s,e,r⟩:=r
 obtain ⟨u,e1,e2,e3,r⟩:=r i hi
 obtain ⟨a,ha,hc⟩:=SlF.at (by decide) s (i:=i) (by omega)
 have hu:hd[i]=u:=by
  rw [List.getElem?_eq_getElem (by omega)] at e1;exact Option.some.inj e1
 have:=hc 0 _ (by rw [hu];rfl)
 rw [Qf] at this
 exact ⟨a,u,ha,e2,e3,this,r⟩
structure Mt (h g o:Heap) (bo:Nat) (rb:Nat->Nat) (n w:Nat) (M:Nat->Nat->Rat):Prop where
 sep:Sep h g o
 hd:∃ hd:List HV,RowB o bo hd/\hd.length=n/\∀ i,i<n->∃ c,hd[i]? = some ⟨some ⟨rb i,0,none⟩,w,c⟩/\w<=c
 nb:∀ i,i<n->rb i≠bo
 inj:∀ i j,i<n->j<n->rb i=rb j->i=j
 row:∀ i,i<n->∃ xs:List QV,RowB o (rb i) xs/\xs.length=w/\Row NQr g xs w (M i)
section
variable {h g o:Heap} {bo n w:Nat} {rb:Nat->Nat} {M:Nat->Nat->Rat}
theorem Mt.next(t:Mt h g o bo rb n w M){h' g':Heap}(s:Sep h' g' o)(l:g.le g'):Mt h' g' o bo rb n w M:=by
 refine ⟨s,t.hd,t.nb,t.inj,fun i hi=>?_⟩
 obtain ⟨xs,r,e,q⟩:=t.row i hi
 exact ⟨xs,r,e,q.mono A0f l⟩
theorem Mt.congr(t:Mt h g o bo rb n w M){M':Nat->Nat->Rat}(e:∀ i j,i<n->j<w->M i j=M' i j):Mt h g o bo rb n w M':=by
 refine ⟨t.sep,t.hd,t.nb,t.inj,fun i hi=>?_⟩
 obtain ⟨xs,r,e1,q⟩:=t.row i hi
 exact ⟨xs,r,e1,q.congr fun j hj=>e i j hi hj⟩
theorem Mt.keep(t:Mt h g o bo rb n w M){h' g' o':Heap}(s:Sep h' g' o')(l:g.le g')(hk:∀ k x,o k=some x->(k=bo\/∃ i,i<n/\k=rb i)->o' k=some x):Mt h' g' o' bo rb n w M:=by
 refine ⟨s,?_,t.nb,t.inj,fun i hi=>?_⟩
 ·obtain ⟨hd,⟨e,ex,hb⟩,h1,h2⟩:=t.hd
  exact ⟨hd,⟨e,ex,hk _ _ hb (.inl rfl)⟩,h1,h2⟩
 ·obtain ⟨xs,⟨e,ex,hb⟩,h1,h2⟩:=t.row i hi
  exact ⟨xs,⟨e,ex,hk _ _ hb (.inr ⟨i,hi,rfl⟩)⟩,h1,h2.mono A0f l⟩
theorem Mt.own(t:Mt h g o bo rb n w M):(∃ x,o bo=some x)/\∀ i,i<n->∃ x,o (rb i)=some x:=by
 obtain ⟨hd,⟨e,ex,hb⟩,_⟩:=t.hd
 refine ⟨⟨_,hb⟩,fun i hi=>?_⟩
 obtain ⟨xs,⟨e,ex,hb⟩,_⟩:=t.row i hi
 exact ⟨_,hb⟩
theorem Mt.head(t:Mt h g o bo rb n w M){i:Nat}(hi:i<n):∃ c,w<=c/\o.cell? (Addr.add ⟨bo,0,none⟩ (i*1))=some (.slice (some ⟨rb i,0,none⟩) w c):=by
 obtain ⟨hd,r,e,q⟩:=t.hd
 obtain ⟨c,e1,hc⟩:=q i hi
 refine ⟨c,hc,?_⟩
 have hu:hd[i]=⟨some ⟨rb i,0,none⟩,w,c⟩:=by
  rw [List.getElem?_eq_getElem (by omega)] at e1;exact Option.some.inj e1
 rw [D8,Nat.zero_add]
 exact r.cell (i:=i) (by omega) (j:=0) (by rw [hu];rfl)
end
def RWr(w:Nat):Heap->HV->(Nat->Rat)->Prop:=fun h s f=>s.n=w/\w<=s.c/\RowV NQr h s.A w f
theorem B5a(w:Nat):Mon (RWr w):=fun _ _ _ _ l i=>⟨i.1,i.2.1,i.2.2.mono A0f l⟩
theorem RowsV.of{h:Heap}{A:Option Addr}{n w:Nat}{M:Nat->Nat->Rat}(r:RowV (RWr w) h A n M):RowsV h A n w M:=r
section
variable {h:Heap} {K:Value->Heap->Prop} {A:Option Addr} {n cap m w:Nat} {r c:Int} {ls:Nat->List UInt8} {M:Nat->Nat->Rat}
theorem A3k(rv':RowV SSr h A n ls)(hn:n<=1000000)(hl:∀ i,i<n->(ls i).length<=100000000)
 (hK1:∀ rows cols,MOk r c n ls rows cols->∀ b h',h.le h'->RowsV h' (some ⟨b,0,none⟩) rows cols (mtx (rvs ls) cols)->K (.tuple #[.slice (some ⟨b,0,none⟩) rows rows,.bool true]) h')
 (hK0:¬ Mx r c n ls->∀ h',h.le h'->K (.tuple #[.slice none 0 0,.bool false]) h'):FCall Tryz.prog A0t #[A9r r c A n cap] h K:=by
 refine B0z _ _ _ _ _ ?_
 unfold B6i
 have no:∀ (_:¬ A1c r c n),K (.tuple #[.slice none 0 0,.bool false]) h:=fun hs=>hK0 (fun x=>hs (A2s.1 x).1) h (B3 _)
 refine B6 (fun e=>no fun s=>by have:=s.1;omega) (fun h1=>B6 (fun e=>no fun s=>by have:=s.2.1;omega) (fun h2=>B6 (fun e=>no fun s=>by have:=s.2.2.1;omega) (fun h3=>B6 (fun e=>no fun s=>by have:=s.2.2.2.1;omega) (fun h4=>?_))))
 have hrc:r*c<=64*64:=Int.mul_le_mul (by omega) (by omega) (by omega) (by omega)
 have hrc0:0<=r*c:=Int.mul_nonneg (by omega) (by omega)
 have ew:B4 (r*c)=r*c:=B5 (by omega) (by omega)
 rw [ew]
 refine R4 (fun e=>no fun s=>e s.2.2.2.2) (fun h5=>?_)
 have sh:A1c r c n:=⟨by omega,by omega,by omega,by omega,h5⟩
 refine A5w rv' hn hl (fun hnum b h1' own=>?_) (fun hno h' l=>⟨_,_,_,_,rfl,hK0 (fun x=>hno (A2s.1 x).2) h' l⟩)
 have mk:=MOk.of sh hnum
 generalize r.toNat=rows at mk
 generalize c.toNat=cols at mk
 have:=mk.r1;have:=mk.r2;have:=mk.c1;have:=mk.c2
 obtain ⟨rfl,rfl,_,_,_,_,rfl,_⟩:=id mk
 have ov:=own.vis A0f
 refine ⟨_,_,_,_,rfl,Dn B9l (zx:=(⟨none,0,0⟩:HV)) rfl (by omega) (by omega) (by omega) (by omega) ?_⟩
 intro b2 hb2
 refine ⟨_,_,_,rfl,fun L hp=>∃ k:Nat,k<=rows/\L=[I (k:Int)]/\OwnK (RWr cols) h1' hp b2 rows k (mtx (rvs ls) cols),fun L _=>rows-(iAt L 0).toNat,⟨0,by omega,rfl,OwnK.zero hb2⟩,?_⟩
 rintro z hp ⟨k,hk,eL,g,o,xs,lg,s,rb,hx,rr⟩
 obtain rfl:z=(k:Int):=by simpa using eL
 refine B6 (fun hlt=>?_) (fun hge=>?_)
 ·have hkr:k<rows:=by omega
  have h2:(k+1)*cols<=rows*cols:=Nat.mul_le_mul_right _ hkr
  have h3:(k+1)*cols=k*cols+cols:=by rw [Nat.add_mul,Nat.one_mul]
  have hrc':rows*cols<=64*64:=Nat.mul_le_mul (by omega) (by omega)
  have e0:B4 ((k:Int)+1)=((k+1:Nat):Int):=B5 (by omega) (by omega)
  have e1:B4 ((k:Int)*(cols:Int))=((k*cols:Nat):Int):=by rw [<- Int.natCast_mul];exact O7 (by omega)
  have e2:B4 (B4 ((k:Int)+1)*(cols:Int))=(((k+1)*cols:Nat):Int):=by rw [e0,<- Int.natCast_mul];exact O7 (by omega)
  rw [e1,e2,e0]
  refine ⟨⟨by omega,by omega⟩,⟨by omega,by simp only [Int.toNat_natCast];omega⟩,_,rfl,by omega,by omega,?_⟩
  simp only [Int.toNat_natCast]
  have e5:(k+1)*cols-k*cols=cols:=by omega
  rw [e5]
  have row:RowV NQr h1' (J6 (some ⟨b,0,none⟩) (rows*cols) (k*cols) 4) cols (mtx (rvs ls) cols k):=ov.cut (c:=rows*cols) (l:=k*cols) (k:=cols) (by omega) (Nat.le_refl _)
  refine OwnK.store (B5a cols) A99 (y:=(⟨J6 (some ⟨b,0,none⟩) (rows*cols) (k*cols) 4,cols,rows*cols-k*cols⟩:HV)) lg (B3 _) s rb (by simpa using hx) rr hkr rfl ⟨rfl,by show cols<=rows*cols-k*cols;omega,row.mono A0f lg⟩ ?_
  intro h4 ow
  exact ⟨⟨k+1,by omega,rfl,ow⟩,by simp only [Re];omega⟩
 ·have:k=rows:=by omega
  subst this
  have own2:Own (RWr cols) h1' hp b2 k (mtx (rvs ls) cols):=⟨g,o,xs,lg,s,rb,hx,rr⟩
  exact hK1 _ _ mk b2 hp (A0 own.le own2.le) (RowsV.of (own2.vis (B5a cols)))
end
section
variable {α:Type} [E:Enc α]
end
section
variable {h:Heap} {K:Value->Heap->Prop} {A:Option Addr} {n cap m w:Nat} {M:Nat->Nat->Rat}
end
abbrev ecE(M:Nat->Nat->Rat)(n c:Nat):ES:=B53 n ⟨M,[],1⟩ c
abbrev qc(w:QV):List Value:=[.bool w.s,.slice w.A w.n w.c,.bool w.s2,.slice w.A2 w.n2 w.c2]
section
variable {g o h11 h14 h15 hp2:Heap} {bo n w r c i B:Nat} {rb:Nat->Nat} {R:Nat->Nat->Rat} {x:QV} {q:Rat} {Invv Invv3:List Value->Heap->Prop} {muv muv3:List Value->Heap->Nat}
end
section
variable {g o h5 h9 hp2:Heap} {bo n w r c B k:Nat} {rb:Nat->Nat} {R:Nat->Nat->Rat} {q:Rat} {Invv:List Value->Heap->Prop} {muv:List Value->Heap->Nat} {pA:Option Addr} {pc:Nat} {wd wd0:QV} {l:List Nat}
end
section
variable {h:Heap} {K:Value->Heap->Prop} {A:Option Addr} {n cap m w:Nat} {M:Nat->Nat->Rat}
end
section
variable {h:Heap} {K:Value->Heap->Prop} {A B:Option Addr} {n m a b:Nat} {r c r2 c2:Int} {ls ls2:Nat->List UInt8}
theorem A0j{k:Int}(r:RowV SSr h A n ls)(hn:n<=1000000000)(hK1:(∀ i,i<n->((ls i).length:Int)<=k)->K (.bool true) h)(hK0:¬ (∀ i,i<n->((ls i).length:Int)<=k)->K (.bool false) h):FCall Tryz.prog Uw #[I k,.slice A n a] h K:=by
 refine A8f _ _ _ _ ?_
 unfold B2d
 refine ⟨fun L hp=>∃ i:Nat,i<=n/\L=[I (i:Int)]/\hp=h/\∀ j,j<i->((ls j).length:Int)<=k,fun L _=>n-(iAt L 0).toNat,⟨0,by omega,rfl,rfl,fun j hj=>by omega⟩,?_⟩
 rintro z hp ⟨i,hi,eL,rfl,hh⟩
 obtain rfl:z=(i:Int):=by simpa using eL
 refine B6 (fun hlt=>?_) (fun hge=>?_)
 ·have hin:i<n:=by omega
  obtain ⟨x,rfl,hc⟩:=r.sat hin
  refine ⟨x,rfl,by omega,by omega,_,hc,?_⟩
  rw [J4]
  refine B6 (fun e=>hK0 fun hx=>by have:=hx i hin;omega) (fun e=>?_)
  rw [show B4 ((i:Int)+1)=((i+1:Nat):Int) by rw [B5]<;>omega]
  refine ⟨⟨i+1,by omega,rfl,rfl,fun j hj=>?_⟩,by simp only [Re];omega⟩
  by_cases e2:j=i
  ·subst e2;omega
  ·exact hh j (by omega)
 ·have:i=n:=by omega
  subst this
  exact hK1 hh
theorem Jf(x:RowV SSr h A n ls)(y:RowV SSr h B m ls2)(hn:n<=1000000000)(hK1:n=m->(∀ i,i<n->ls i=ls2 i)->K (.bool true) h)(hK0:¬ (n=m/\∀ i,i<n->ls i=ls2 i)->K (.bool false) h):FCall Tryz.prog Gv #[.slice A n a,.slice B m b] h K:=by
 refine A1e _ _ _ _ _ _ ?_
 unfold A2t
 refine R4 (fun e=>hK0 fun hx=>e (by omega)) (fun e=>?_)
 have e:n=m:=by omega
 subst e
 refine ⟨fun L hp=>∃ i:Nat,i<=n/\L=[I (i:Int)]/\hp=h/\∀ j,j<i->ls j=ls2 j,fun L _=>n-(iAt L 0).toNat,⟨0,by omega,rfl,rfl,fun j hj=>by omega⟩,?_⟩
 rintro z hp ⟨i,hi,eL,rfl,hh⟩
 obtain rfl:z=(i:Int):=by simpa using eL
 refine B6 (fun hlt=>?_) (fun hge=>?_)
 ·have hin:i<n:=by omega
  obtain ⟨u,rfl,hc⟩:=x.sat hin
  obtain ⟨v,rfl,hd⟩:=y.sat hin
  refine ⟨u,rfl,by omega,by omega,_,hc,v,rfl,by omega,by omega,_,hd,?_⟩
  rw [Jt]
  refine Bc (B6 (fun e=>?_) (fun e=>hK0 fun hx=>e (hx.2 i hin)))
  rw [show B4 ((i:Int)+1)=((i+1:Nat):Int) by rw [B5]<;>omega]
  refine ⟨⟨i+1,by omega,rfl,rfl,fun j hj=>?_⟩,by simp only [Re];omega⟩
  by_cases e2:j=i
  ·subst e2;exact e
  ·exact hh j (by omega)
 ·have:i=n:=by omega
  subst this
  exact hK1 rfl hh
structure Small (r c:Int) (n:Nat) (ls:Nat->List UInt8) (k d:Int):Prop where
 hr:r<=k
 hc:c<=k
 hn:(n:Int)<=k*k+2
 hl:∀ i,i<n->((ls i).length:Int)<=d
theorem A0i{k d:Int}(x:RowV SSr h A n ls)(hk:0<=k/\k<=1000)(hK1:Small r c n ls k d->K (.bool true) h)(hK0:¬ Small r c n ls k d->K (.bool false) h):FCall Tryz.prog Bu #[A9r r c A n a,I k,I d] h K:=by
 refine Qw _ _ _ _ _ _ _ ?_
 unfold Nd
 have hkk:k*k<=1000*1000:=Int.mul_le_mul hk.2 hk.2 hk.1 (by omega)
 have hkk0:0<=k*k:=Int.mul_nonneg hk.1 hk.1
 have e1:B4 (k*k)=k*k:=B5 (by omega) (by omega)
 have e2:B4 (k*k+2)=k*k+2:=B5 (by omega) (by omega)
 rw [e1,e2]
 refine B6 (fun h1=>B6 (fun h2=>B6 (fun h3=>?_) (fun e=>hK0 fun x=>e x.hn)) (fun e=>hK0 fun x=>e x.hc)) (fun e=>hK0 fun x=>e x.hr)
 exact A0j x (by omega) (fun hx=>⟨_,rfl,hK1 ⟨h1,h2,h3,hx⟩⟩) (fun hx=>⟨_,rfl,hK0 fun y=>hx y.hl⟩)
end
theorem A9y(ls:List (List UInt8)):(ls.flatMap fun l=>[Value.string (bs l)])=ls.map fun l=>Value.string (bs l):=by
 induction ls with
 | nil=>rfl
 | cons x l ih=>rw [List.flatMap_cons,ih];rfl
theorem Fh{h:Heap}{A:Option Addr}{ls:List (List UInt8)}(s:SlV h A (ls.map fun l=>Value.string (bs l))):RowV SSr h A ls.length (fun i=>ls.getD i []):=by
 refine ⟨ls,?_,rfl,fun i hi=>⟨ls[i],List.getElem?_eq_getElem hi,?_⟩⟩
 ·show SlV h A (ls.flatMap fun l=>[Value.string (bs l)])
  rw [A9y];exact s
 ·show ls[i]=ls.getD i []
  simp [hi]
theorem Tw(l:List Rat):rvs (fun i=>(l.map N5).getD i [])=fun i=>l.getD i 0:=by
 funext i
 show rv ((l.map N5).getD i [])=_
 by_cases hi:i<l.length
 ·rw [List.getD_eq_getElem?_getD,List.getD_eq_getElem?_getD,List.getElem?_map,List.getElem?_eq_getElem hi]
  exact Wx _
 ·rw [List.getD_eq_getElem?_getD,List.getD_eq_getElem?_getD,List.getElem?_map,List.getElem?_eq_none (by omega)]
  exact B15 (by rintro ⟨q,hq⟩;exact absurd hq.symm (by
   have:=A4z q
   obtain ⟨c,r,e,_⟩:=this
   rw [e];simp))
theorem B4v:N5 1=[49]:=by
 have:L5 1=[49]:=by decide +kernel
 simp [N5,Im,this]
theorem B8j:N5 2=[50]:=by
 have:L5 2=[50]:=by decide +kernel
 have h1:(2:Rat).den=1:=by decide +kernel
 have h2:(2:Rat).num=2:=by decide +kernel
 simp [N5,Im,this,h1,h2]
theorem B7j:N5 4=[52]:=by
 have:L5 4=[52]:=by decide +kernel
 have h1:(4:Rat).den=1:=by decide +kernel
 have h2:(4:Rat).num=4:=by decide +kernel
 simp [N5,Im,this,h1,h2]
section
variable {h:Heap} {K:Value->Heap->Prop} {A B:Option Addr} {n cap m:Nat} {r c:Int} {ls:Nat->List UInt8}
end
section
variable {h:Heap} {K:Value->Heap->Prop} {A:Option Addr} {n cap m w:Nat} {r c:Int} {ls:Nat->List UInt8} {M:Nat->Nat->Rat}
end
section
variable {α β:Type} {R:Heap->α->β->Prop} {g:Heap}
theorem Row.app{xs ys:List α}{f:Nat->β}{p q:Nat}(hp:xs.length=p)(r:Row R g xs p f)(r2:Row R g ys q (fun j=>f (p+j))):Row R g (xs++ys) (p+q) f:=fun i hi=>by
 by_cases h:i<p
 ·obtain ⟨w,e,x⟩:=r i h
  exact ⟨w,by rw [List.getElem?_append_left (by omega)];exact e,x⟩
 ·obtain ⟨w,e,x⟩:=r2 (i-p) (by omega)
  refine ⟨w,by rw [List.getElem?_append_right (by omega),hp];exact e,?_⟩
  have e2:p+(i-p)=i:=by omega
  show R g w (f i)
  rw [<- e2];exact x
end
section
variable {h:Heap} {K:Value->Heap->Prop} {A:Option Addr} {n cap m:Nat} {r c:Int} {ls:Nat->List UInt8}
theorem Ao{z:Int}(hz: -9223372036854775808<=z/\z<=9223372036854775807)(hK:∀ w h',h.le h'->RQ h' w (z:Rat)->K w.v h'):FCall Tryz.prog Aa #[I z] h K:=by
 refine A7v _ ?_
 unfold B26
 exact Ev hz.1 hz.2 fun s1 A1 n1 c1 h' l i=>⟨_,_,_,_,rfl,hK _ h' l (A1s i)⟩
end
end Go.Proofs.YtajkakhfcokljaaGreatDoor
namespace Go.Proofs.YtajkakhfcokljaaGreatDoor
set_option maxRecDepth 20000
def ldA(A:Nat->Nat->Rat):Nat->Nat->Nat->Rat
 | 0=>A
 | k+1=>fun i j=>if ldA A k k k=0 then ldA A k i j else ldA A k i j-ldA A k i k*(ldA A k k j/ldA A k k k)
def Kj(A:Nat->Nat->Rat)(n k:Nat):Prop:=0<=ldA A k k k/\(ldA A k k k=0->∀ i,k<i->i<n->ldA A k i k=0)
def ldL(A:Nat->Nat->Rat)(i k:Nat):Rat:=if i=k then 1 else if i<k then 0 else if ldA A k k k=0 then 0 else ldA A k i k/ldA A k k k
def ldD(A:Nat->Nat->Rat)(k:Nat):Rat:=ldA A k k k
def Wb(n:Nat)(A:Nat->Nat->Rat):Prop:=∀ i j,i<n->j<n->A i j=A j i
theorem Ui{A:Nat->Nat->Rat}{n:Nat}(hs:Wb n A):∀ k,k<=n->Wb n (ldA A k):=by
 intro k
 induction k with
 | zero=>exact fun _=>hs
 | succ k ih=>
  intro hk i j hi hj
  have h:=ih (by omega)
  show (if ldA A k k k=0 then ldA A k i j else _)=(if ldA A k k k=0 then ldA A k j i else _)
  split
  ·exact h i j hi hj
  ·rw [h i j hi hj,h i k hi (by omega),h k j (by omega) hj]
   grind
theorem Je{A:Nat->Nat->Rat}{n:Nat}(hs:Wb n A):∀ k,k<=n->(∀ m,m<k->Kj A n m)->∀ i j,i<n->j<n->i<k\/j<k->ldA A k i j=0:=by
 intro k
 induction k with
 | zero=>intro _ _ i j _ _ h;omega
 | succ k ih=>
  intro hk hok i j hi hj h
  have ih':=ih (by omega) fun m hm=>hok m (by omega)
  have hsy:=Ui hs k (by omega)
  obtain ⟨_,h2⟩:=hok k (by omega)
  have row:ldA A k k k=0->∀ b,b<n->ldA A k k b=0:=fun e b hb=>by
   rcases Nat.lt_trichotomy b k with c|c|c
   ·exact ih' k b (by omega) hb (.inr c)
   ·rw [c];exact e
   ·rw [hsy k b (by omega) hb];exact h2 e b c hb
  show (if ldA A k k k=0 then ldA A k i j else _)=0
  by_cases e:ldA A k k k=0
  ·rw [if_pos e]
   by_cases c:i<k\/j<k
   ·exact ih' i j hi hj c
   ·by_cases ci:i=k
    ·rw [ci];exact row e j hj
    ·have cj:j=k:=by omega
     rw [hsy i j hi hj,cj];exact row e i hi
  ·rw [if_neg e]
   by_cases ci:i=k
   ·rw [ci];grind
   ·by_cases cj:j=k
    ·rw [cj];grind
    ·rw [ih' i j hi hj (by omega)]
     by_cases c:i<k
     ·rw [ih' i k hi (by omega) (.inl c)];grind
     ·rw [ih' k j (by omega) hj (.inr (by omega))];grind
structure LdR (n k:Nat) (A:Nat->Nat->Rat) (s:ES):Prop where
 len:s.cs.length<=k
 low:∀ i j,k<=i->i<n->j<n->s.R i j=ldA A k i j
 zero:∀ i j,s.cs.length<=i->i<k->j<n->s.R i j=0
theorem LdR.row{n k:Nat}{A:Nat->Nat->Rat}{s:ES}(h:LdR n k A s)(hk:k<n)(hne:ldA A k k k≠0):A1u n k s=k:=by
 have h1:=h.len
 unfold A1u
 refine B1h _ h1 (by omega) (fun j a b=>?_) fun _=>?_
 ·rw [h.zero j k a b hk];decide
 ·rw [h.low k k (Nat.le_refl _) hk hk];exact decide_eq_true hne
theorem LdR.none{n k:Nat}{A:Nat->Nat->Rat}{s:ES}(h:LdR n k A s)(hk:k<n)(he:ldA A k k k=0)(hok:Kj A n k):A1u n k s=n:=by
 have h1:=h.len
 unfold A1u
 refine B1h _ (by omega) (by omega) (fun j a b=>?_) fun c=>by omega
 by_cases c:j<k
 ·rw [h.zero j k a c hk];decide
 ·rw [h.low j k (by omega) b hk]
  by_cases e:j=k
  ·rw [e,he];decide
  ·rw [hok.2 he j (by omega) b];decide
theorem LdR.step{n k:Nat}{A:Nat->Nat->Rat}{s:ES}(hs:Wb n A)(hk:k<n)(hok:∀ m,m<=k->Kj A n m)(h:LdR n k A s):LdR n (k+1) A (A5b n k s):=by
 have h1:=h.len
 have z:=Je hs k (by omega) fun m hm=>hok m (by omega)
 have z':=Je hs (k+1) (by omega) fun m hm=>hok m (by omega)
 unfold A5b
 rw [if_pos (show s.cs.length<n by omega)]
 by_cases e:ldA A k k k=0
 ·rw [h.none hk e (hok k (Nat.le_refl _)),if_neg (Nat.lt_irrefl n)]
  refine ⟨by show s.cs.length<=k+1;omega,fun i j hi hin hj=>?_,fun i j hi hik hj=>?_⟩
  ·show s.R i j=(if ldA A k k k=0 then ldA A k i j else _)
   rw [if_pos e];exact h.low i j (by omega) hin hj
  ·show s.R i j=0
   by_cases c:i=k
   ·rw [c,h.low k j (Nat.le_refl _) hk hj]
    have:=z' k j hk hj (.inl (by omega))
    rw [show ldA A (k+1) k j=(if ldA A k k k=0 then ldA A k k j else ldA A k k j-ldA A k k k*(ldA A k k j/ldA A k k k)) from rfl,if_pos e] at this
    exact this
   ·exact h.zero i j hi (by omega) hj
 ·rw [h.row hk e,if_pos hk]
  have hl:(s.cs++[k]).length=s.cs.length+1:=by simp
  have xl:=Tm s.cs.length k
  refine ⟨by show (s.cs++[k]).length<=k+1;omega,fun i j hi hin hj=>?_,fun i j hi hik hj=>?_⟩
  ·show Hb (fun i=>s.R (xch s.cs.length k i)) s.cs.length k i j=(if ldA A k k k=0 then ldA A k i j else _)
   have xi:xch s.cs.length k i=i:=by unfold xch;rw [if_neg (by omega),if_neg (by omega)]
   unfold Hb
   rw [if_neg e,if_neg (by omega)]
   simp only [xl,xi]
   rw [h.low i k (by omega) hin hk,h.low i j (by omega) hin hj,h.low k j (Nat.le_refl _) hk hj,h.low k k (Nat.le_refl _) hk hk]
   split
   ·rename_i c
    rcases c with c|c
    ·rw [c];grind
    ·rw [z k j hk hj (.inr c)];grind
   ·rfl
  ·show Hb (fun i=>s.R (xch s.cs.length k i)) s.cs.length k i j=0
   have hi':(s.cs++[k]).length<=i:=hi
   have zr:∀ b,b<n->s.R (xch s.cs.length k i) b=0:=fun b hb=>by
    unfold xch
    rw [if_neg (by omega)]
    split
    ·exact h.zero _ b (Nat.le_refl _) (by omega) hb
    ·exact h.zero i b (by omega) (by omega) hb
   unfold Hb
   rw [if_neg (by omega),if_pos (.inl (zr k hk))]
   exact zr j hj
theorem LdR.run{n:Nat}{A:Nat->Nat->Rat}(hs:Wb n A):∀ k,k<=n->(∀ m,m<k->Kj A n m)->LdR n k A (B53 n ⟨A,[],1⟩ k):=by
 intro k
 induction k with
 | zero=>exact fun _ _=>⟨Nat.le_refl _,fun _ _ _ _ _=>rfl,fun i j _ h _=>by omega⟩
 | succ k ih=>exact fun hk hok=>LdR.step hs (by omega) (fun m hm=>hok m (by omega)) (ih (by omega) fun m hm=>hok m (by omega))
def qf(n:Nat)(A:Nat->Nat->Rat)(x:Nat->Rat):Rat:=sm n fun i=>x i*sm n fun j=>A i j*x j
theorem A0h{A:Nat->Nat->Rat}{i k:Nat}(h:i<k):ldL A i k=0:=by unfold ldL;rw [if_neg (by omega),if_pos h]
theorem A6a(A:Nat->Nat->Rat)(k:Nat):ldL A k k=1:=by unfold ldL;rw [if_pos rfl]
theorem B5b{A:Nat->Nat->Rat}{n:Nat}(hs:Wb n A):∀ k,k<=n->(∀ m,m<k->Kj A n m)->∀ i j,i<n->j<n->A i j=sm k (fun m=>ldL A i m*ldD A m*ldL A j m)+ldA A k i j:=by
 intro k
 induction k with
 | zero=>intro _ _ i j _ _;show A i j=0+A i j;rw [Rat.zero_add]
 | succ k ih=>
  intro hk hok i j hi hj
  have hok': ∀ m,m<k->Kj A n m:=fun m hm=>hok m (by omega)
  have z:=Je hs k (by omega) hok'
  have hsy:=Ui hs k (by omega)
  rw [ih (by omega) hok' i j hi hj]
  show _=sm k _+ldL A i k*ldD A k*ldL A j k+(if ldA A k k k=0 then ldA A k i j else _)
  unfold ldD
  by_cases e:ldA A k k k=0
  ·rw [if_pos e,e];grind
  ·rw [if_neg e]
   have f:∀ a,a<n->ldL A a k=ldA A k a k/ldA A k k k:=fun a ha=>by
    unfold ldL
    by_cases c:a=k
    ·rw [if_pos c,c];grind
    ·rw [if_neg c]
     by_cases c2:a<k
     ·rw [if_pos c2,z a k ha (by omega) (.inl c2)];grind
     ·rw [if_neg c2,if_neg e]
   rw [f i hi,f j hj,hsy k j (by omega) hj]
   grind
theorem A69{A:Nat->Nat->Rat}{n k:Nat}(hs:Wb n A)(hk:k<=n)(hok:∀ m,m<k->Kj A n m)(x:Nat->Rat):qf n A x=sm k (fun m=>ldD A m*(sm n (fun i=>ldL A i m*x i)*sm n (fun i=>ldL A i m*x i)))+qf n (ldA A k) x:=by
 have h1:qf n A x=sm n fun i=>(sm k fun m=>(ldD A m*sm n (fun j=>ldL A j m*x j))*(ldL A i m*x i))+x i*sm n fun j=>ldA A k i j*x j:=by
  refine F7 fun i hi=>?_
  have h2:(sm n fun j=>A i j*x j)=sm n fun j=>(sm k fun m=>(ldL A i m*ldD A m)*(ldL A j m*x j))+ldA A k i j*x j:=by
   refine F7 fun j hj=>?_
   rw [B5b hs k hk hok i j hi hj,Rat.add_mul]
   congr 1
   rw [Rat.mul_comm,<- Me]
   exact F7 fun m _=>by grind
  rw [h2,Mh,Zz,Rat.mul_add,<- Me]
  congr 1
  refine F7 fun m _=>?_
  rw [Me]
  grind
 rw [h1,Mh,Zz]
 congr 1
 refine F7 fun m _=>?_
 rw [Me]
 grind
theorem B13{n a b:Nat}{f:Nat->Rat}(ha:a<n)(hb:b<n)(hab:a≠b)(h:∀ i,i<n->i≠a->i≠b->f i=0):sm n f=f a+f b:=by
 have e:sm n f=sm n (fun i=>if i=a then f a else 0)+sm n (fun i=>if i=a then 0 else f i):=by
  rw [<- Mh]
  refine F7 fun i _=>?_
  by_cases c:i=a
  ·rw [if_pos c,if_pos c,c,Rat.add_zero]
  ·rw [if_neg c,if_neg c,Rat.zero_add]
 rw [e,Ok ha fun i _ c=>if_neg c,Ok hb fun i hi c=>?_,if_pos rfl,if_neg (Ne.symm hab)]
 split
 ·rfl
 ·exact h i hi (by assumption) c
theorem B38{A:Nat->Nat->Rat}{n k:Nat}(hs:Wb n A)(hk:k<n)(hok:∀ m,m<k->Kj A n m){v:Nat->Rat}(hv:∀ m,m<k->sm n (fun i=>ldL A i m*v i)=0)(h1:v k=1)(h0:∀ i,k<i->i<n->v i=0)(hneg:ldA A k k k<0):qf n A v<0:=by
 have z:=Je hs k (by omega) hok
 rw [A69 hs (by omega) hok,Dk fun m hm=>by rw [hv m hm];grind]
 have e:qf n (ldA A k) v=ldA A k k k:=by
  unfold qf
  rw [Ok hk fun i hi c=>?_,Ok hk fun j hj c=>?_,h1]
  ·grind
  ·by_cases c':j<k
   ·rw [z k j hk hj (.inr c'),Rat.zero_mul]
   ·rw [h0 j (by omega) hj,Rat.mul_zero]
  ·by_cases c':i<k
   ·rw [Dk fun j hj=>by rw [z i j hi hj (.inl c'),Rat.zero_mul],Rat.mul_zero]
   ·rw [h0 i (by omega) hi,Rat.zero_mul]
 rw [e,Rat.zero_add]
 exact hneg
theorem B37{A:Nat->Nat->Rat}{n k p:Nat}(hs:Wb n A)(hkp:k<p)(hp:p<n)(hok:∀ m,m<k->Kj A n m){v:Nat->Rat}(hv:∀ m,m<k->sm n (fun i=>ldL A i m*v i)=0)(h1:v p=1)(h0:∀ i,k<i->i<n->i≠p->v i=0)(hz:ldA A k k k=0)(hb:ldA A k p k≠0)(hvk:v k=(ldA A k p p+1)/(ldA A k p k * -2)):qf n A v<0:=by
 have z:=Je hs k (by omega) hok
 have sy:=Ui hs k (by omega) p k hp (by omega)
 rw [A69 hs (by omega) hok,Dk fun m hm=>by rw [hv m hm];grind]
 have inner:∀ i,i<n->k<=i->(sm n fun j=>ldA A k i j*v j)=ldA A k i k*v k+ldA A k i p*v p:=fun i hi hki=>by
  refine B13 (by omega) hp (by omega) fun j hj c1 c2=>?_
  by_cases c':j<k
  ·rw [z i j hi hj (.inr c'),Rat.zero_mul]
  ·rw [h0 j (by omega) hj c2,Rat.mul_zero]
 have e:qf n (ldA A k) v= -1:=by
  unfold qf
  rw [B13 (show k<n by omega) hp (by omega) fun i hi c1 c2=>?_]
  ·rw [inner k (by omega) (Nat.le_refl _),inner p hp (by omega),h1,hz,<- sy,hvk]
   grind
  ·by_cases c':i<k
   ·rw [Dk fun j hj=>by rw [z i j hi hj (.inl c'),Rat.zero_mul],Rat.mul_zero]
   ·rw [h0 i (by omega) hi c2,Rat.zero_mul]
 rw [e,Rat.zero_add]
 decide +kernel
end Go.Proofs.YtajkakhfcokljaaGreatDoor
