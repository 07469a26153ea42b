/-
  Texts of this proof, merged by a program of ours.
-/
import Derived.Test.YtajkakhfcokljaaGreatDoorG30
open Go.Proofs.Tryz
open Nat renaming le_refl->C5h
namespace Go.Proofs.YtajkakhfcokljaaGreatDoor
set_option linter.all false
set_option maxRecDepth 20000
open Go
section
variable {α β:Type} {R:Heap->α->β->Prop} {g:Heap}
end
section
variable {h:Heap} {K:VP} {A:Option Addr} {n cap m:Nat} {r c:Int} {ls:Nat->List UInt8}
theorem A3q{z:Int}(hz: -9223372036854775808<=z/\z<=9223372036854775807)(hK:∀ w h',h.le h'->RQ h' w (z:Rat)->K w.v h'):FCall prog Zb #[I z] h K:=by
 refine B2j _ ?_
 unfold B7g
 exact Ca hz.1 hz.2 fun s1 A1 n1 c1 h' l i=>⟨_,_,_,_,rfl,hK _ h' l (Yd i)⟩
end
end Go.Proofs.YtajkakhfcokljaaGreatDoor
namespace Go.Proofs.YtajkakhfcokljaaGreatDoor
set_option maxRecDepth 20000
def ldA(A:Nat->Nat->Rat):Nat->Nat->Nat->Rat
 | 0=>A
 | k+1=>fun i j=>if ldA A k k k=0 then ldA A k i j else ldA A k i j-ldA A k i k*(ldA A k k j/ldA A k k k)
def A0f(A:Nat->Nat->Rat)(n k:Nat):Prop:=0<=ldA A k k k/\(ldA A k k k=0->∀ i,k<i->i<n->ldA A k i k=0)
def ldL(A:Nat->Nat->Rat)(i k:Nat):Rat:=if i=k then 1 else if i<k then 0 else if ldA A k k k=0 then 0 else ldA A k i k/ldA A k k k
def ldD(A:Nat->Nat->Rat)(k:Nat):Rat:=ldA A k k k
def A3h(n:Nat)(A:Nat->Nat->Rat):Prop:=∀ i j,i<n->j<n->A i j=A j i
theorem B4r{A:Nat->Nat->Rat}{n:Nat}(hs:A3h n A):∀ k,k<=n->A3h n (ldA A k):=by
 intro k
 induction k with
 | zero=>exact fun _=>hs
 | succ k ih=>
  intro hk i j hi hj
  have h:=ih (by omega)
  show (if ldA A k k k=0 then ldA A k i j else _)=(if ldA A k k k=0 then ldA A k j i else _)
  split
  ·exact h i j hi hj
  ·rw [h i j hi hj,h i k hi (by omega),h k j (by omega) hj]
   grind
theorem A5y{A:Nat->Nat->Rat}{n:Nat}(hs:A3h n A):∀ k,k<=n->(∀ m,m<k->A0f A n m)->∀ i j,i<n->j<n->i<k\/j<k->ldA A k i j=0:=by
 intro k
 induction k with
 | zero=>intro _ _ i j _ _ h;omega
 | succ k ih=>
  intro hk hok i j hi hj h
  have ih':=ih (by omega) fun m hm=>hok m (by omega)
  have hsy:=B4r hs k (by omega)
  obtain ⟨_,h2⟩:=hok k (by omega)
  have row:ldA A k k k=0->∀ b,b<n->ldA A k k b=0:=fun e b hb=>by
   rcases Nat.lt_trichotomy b k with c|c|c
   ·exact ih' k b (by omega) hb (.inr c)
   ·rw [c];exact e
   ·rw [hsy k b (by omega) hb];exact h2 e b c hb
  show (if ldA A k k k=0 then ldA A k i j else _)=0
  by_cases e:ldA A k k k=0
  ·rw [if_pos e]
   by_cases c:i<k\/j<k
   ·exact ih' i j hi hj c
   ·by_cases ci:i=k
    ·rw [ci];exact row e j hj
    ·have cj:j=k:=by omega
     rw [hsy i j hi hj,cj];exact row e i hi
  ·rw [if_neg e]
   by_cases ci:i=k
   ·rw [ci];grind
   ·by_cases cj:j=k
    ·rw [cj];grind
    ·rw [ih' i j hi hj (by omega)]
     by_cases c:i<k
     ·rw [ih' i k hi (by omega) (.inl c)];grind
     ·rw [ih' k j (by omega) hj (.inr (by omega))];grind
structure LdR (n k:Nat) (A:Nat->Nat->Rat) (s:ES):Prop where
 len:s.cs.length<=k
 low:∀ i j,k<=i->i<n->j<n->s.R i j=ldA A k i j
 zero:∀ i j,s.cs.length<=i->i<k->j<n->s.R i j=0
theorem LdR.row{n k:Nat}{A:Nat->Nat->Rat}{s:ES}(h:LdR n k A s)(hk:k<n)(hne:ldA A k k k≠0):Oa n k s=k:=by
 have h1:=h.len
 unfold Oa
 refine A62 _ h1 (by omega) (fun j a b=>?_) fun _=>?_
 ·rw [h.zero j k a b hk];decide
 ·rw [h.low k k (C5h _) hk hk];exact decide_eq_true hne
theorem LdR.none{n k:Nat}{A:Nat->Nat->Rat}{s:ES}(h:LdR n k A s)(hk:k<n)(he:ldA A k k k=0)(hok:A0f A n k):Oa n k s=n:=by
 have h1:=h.len
 unfold Oa
 refine A62 _ (by omega) (by omega) (fun j a b=>?_) fun c=>by omega
 by_cases c:j<k
 ·rw [h.zero j k a c hk];decide
 ·rw [h.low j k (by omega) b hk]
  by_cases e:j=k
  ·rw [e,he];decide
  ·rw [hok.2 he j (by omega) b];decide
theorem LdR.step{n k:Nat}{A:Nat->Nat->Rat}{s:ES}(hs:A3h n A)(hk:k<n)(hok:∀ m,m<=k->A0f A n m)(h:LdR n k A s):LdR n (k+1) A (Jr n k s):=by
 have h1:=h.len
 have z:=A5y hs k (by omega) fun m hm=>hok m (by omega)
 have z':=A5y hs (k+1) (by omega) fun m hm=>hok m (by omega)
 unfold Jr
 rw [if_pos (show s.cs.length<n by omega)]
 by_cases e:ldA A k k k=0
 ·rw [h.none hk e (hok k (C5h _)),if_neg (Nat.lt_irrefl n)]
  refine ⟨by show s.cs.length<=k+1;omega,fun i j hi hin hj=>?_,fun i j hi hik hj=>?_⟩
  ·show s.R i j=(if ldA A k k k=0 then ldA A k i j else _)
   rw [if_pos e];exact h.low i j (by omega) hin hj
  ·show s.R i j=0
   by_cases c:i=k
   ·rw [c,h.low k j (C5h _) hk hj]
    have:=z' k j hk hj (.inl (by omega))
    rw [show ldA A (k+1) k j=(if ldA A k k k=0 then ldA A k k j else ldA A k k j-ldA A k k k*(ldA A k k j/ldA A k k k)) from rfl,if_pos e] at this
    exact this
   ·exact h.zero i j hi (by omega) hj
 ·rw [h.row hk e,if_pos hk]
  have hl:(s.cs++[k]).length=s.cs.length+1:=by simp
  have xl:=Cq s.cs.length k
  refine ⟨by show (s.cs++[k]).length<=k+1;omega,fun i j hi hin hj=>?_,fun i j hi hik hj=>?_⟩
  ·show Ae (fun i=>s.R (xch s.cs.length k i)) s.cs.length k i j=(if ldA A k k k=0 then ldA A k i j else _)
   have xi:xch s.cs.length k i=i:=by unfold xch;rw [if_neg (by omega),if_neg (by omega)]
   unfold Ae
   rw [if_neg e,if_neg (by omega)]
   simp only [xl,xi]
   rw [h.low i k (by omega) hin hk,h.low i j (by omega) hin hj,h.low k j (C5h _) hk hj,h.low k k (C5h _) hk hk]
   split
   ·rename_i c
    rcases c with c|c
    ·rw [c];grind
    ·rw [z k j hk hj (.inr c)];grind
   ·rfl
  ·show Ae (fun i=>s.R (xch s.cs.length k i)) s.cs.length k i j=0
   have hi':(s.cs++[k]).length<=i:=hi
   have zr:∀ b,b<n->s.R (xch s.cs.length k i) b=0:=fun b hb=>by
    unfold xch
    rw [if_neg (by omega)]
    split
    ·exact h.zero _ b (C5h _) (by omega) hb
    ·exact h.zero i b (by omega) (by omega) hb
   unfold Ae
   rw [if_neg (by omega),if_pos (.inl (zr k hk))]
   exact zr j hj
theorem LdR.run{n:Nat}{A:Nat->Nat->Rat}(hs:A3h n A):∀ k,k<=n->(∀ m,m<k->A0f A n m)->LdR n k A (Sa n ⟨A,[],1⟩ k):=by
 intro k
 induction k with
 | zero=>exact fun _ _=>⟨C5h _,fun _ _ _ _ _=>rfl,fun i j _ h _=>by omega⟩
 | succ k ih=>exact fun hk hok=>LdR.step hs (by omega) (fun m hm=>hok m (by omega)) (ih (by omega) fun m hm=>hok m (by omega))
def qf(n:Nat)(A:Nat->Nat->Rat)(x:Nat->Rat):Rat:=sm n fun i=>x i*sm n fun j=>A i j*x j
theorem B8s{A:Nat->Nat->Rat}{i k:Nat}(h:i<k):ldL A i k=0:=by unfold ldL;rw [if_neg (by omega),if_pos h]
theorem B8r(A:Nat->Nat->Rat)(k:Nat):ldL A k k=1:=by unfold ldL;rw [if_pos rfl]
theorem A5o{n:Nat}{A B:Nat->Nat->Rat}{x y:Nat->Rat}(h:∀ i j,i<n->j<n->A i j=B i j)(hx:∀ i,i<n->x i=y i):qf n A x=qf n B y:=
 C6 fun i hi=>by rw [hx i hi,C6 fun j hj=>by rw [h i j hi hj,hx j hj]]
end Go.Proofs.YtajkakhfcokljaaGreatDoor
