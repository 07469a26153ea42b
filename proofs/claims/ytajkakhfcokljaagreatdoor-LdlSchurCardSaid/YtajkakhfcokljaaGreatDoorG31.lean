/-
  Texts of this proof, merged by a program of ours.
-/
import Derived.Test.YtajkakhfcokljaaGreatDoorG30
open Nat renaming le_refl->C6d
namespace Go.Proofs.YtajkakhfcokljaaGreatDoor
def ldA(A:Nat->Nat->Rat):Nat->Nat->Nat->Rat
 | 0=>A
 | k+1=>fun i j=>if ldA A k k k=0 then ldA A k i j else ldA A k i j-ldA A k i k*(ldA A k k j/ldA A k k k)
def A0u(A:Nat->Nat->Rat)(n k:Nat):Prop:=0<=ldA A k k k/\(ldA A k k k=0->∀ i,k<i->i<n->ldA A k i k=0)
def ldL(A:Nat->Nat->Rat)(i k:Nat):Rat:=if i=k then 1 else if i<k then 0 else if ldA A k k k=0 then 0 else ldA A k i k/ldA A k k k
def ldD(A:Nat->Nat->Rat)(k:Nat):Rat:=ldA A k k k
def A13(n:Nat)(A:Nat->Nat->Rat):Prop:=∀ i j,i<n->j<n->A i j=A j i
theorem B5v{A:Nat->Nat->Rat}{n:Nat}(hs:A13 n A):∀ k,k<=n->A13 n (ldA A k):=by
 intro k
 induction k with
 | zero=>exact fun _=>hs
 | succ k ih=>
  intro hk i j hi hj
  have h:=ih (by omega)
  show (if ldA A k k k=0 then ldA A k i j else _)=(if ldA A k k k=0 then ldA A k j i else _)
  split
  ·exact h i j hi hj
  ·rw [h i j hi hj,h i k hi (by omega),h k j (by omega) hj]
   grind
theorem A6k{A:Nat->Nat->Rat}{n:Nat}(hs:A13 n A):∀ k,k<=n->(∀ m,m<k->A0u A n m)->∀ i j,i<n->j<n->i<k\/j<k->ldA A k i j=0:=by
 intro k
 induction k with
 | zero=>intro _ _ i j _ _ h;omega
 | succ k ih=>
  intro hk hok i j hi hj h
  have ih':=ih (by omega) fun m hm=>hok m (by omega)
  have hsy:=B5v hs k (by omega)
  obtain ⟨_,h2⟩:=hok k (by omega)
  have row:ldA A k k k=0->∀ b,b<n->ldA A k k b=0:=fun e b hb=>by
   rcases Nat.lt_trichotomy b k with c|c|c
   ·exact ih' k b (by omega) hb (.inr c)
   ·rw [c];exact e
   ·rw [hsy k b (by omega) hb];exact h2 e b c hb
  show (if ldA A k k k=0 then ldA A k i j else _)=0
  by_cases e:ldA A k k k=0
  ·rw [if_pos e]
   by_cases c:i<k\/j<k
   ·exact ih' i j hi hj c
   ·by_cases ci:i=k
    ·rw [ci];exact row e j hj
    ·have cj:j=k:=by omega
     rw [hsy i j hi hj,cj];exact row e i hi
  ·rw [if_neg e]
   by_cases ci:i=k
   ·rw [ci];grind
   ·by_cases cj:j=k
    ·rw [cj];grind
    ·rw [ih' i j hi hj (by omega)]
     by_cases c:i<k
     ·rw [ih' i k hi (by omega) (.inl c)];grind
     ·rw [ih' k j (by omega) hj (.inr (by omega))];grind
structure LdR (n k:Nat) (A:Nat->Nat->Rat) (s:ES):Prop where
 len:s.cs.length<=k
 low:∀ i j,k<=i->i<n->j<n->s.R i j=ldA A k i j
 zero:∀ i j,s.cs.length<=i->i<k->j<n->s.R i j=0
theorem LdR.row{n k:Nat}{A:Nat->Nat->Rat}{s:ES}(h:LdR n k A s)(hk:k<n)(hne:ldA A k k k≠0):Vn n k s=k:=by
 have h1:=h.len
 unfold Vn
 refine A6o _ h1 (by omega) (fun j a b=>?_) fun _=>?_
 ·rw [h.zero j k a b hk];decide
 ·rw [h.low k k (C6d _) hk hk];exact decide_eq_true hne
theorem LdR.none{n k:Nat}{A:Nat->Nat->Rat}{s:ES}(h:LdR n k A s)(hk:k<n)(he:ldA A k k k=0)(hok:A0u A n k):Vn n k s=n:=by
 have h1:=h.len
 unfold Vn
 refine A6o _ (by omega) (by omega) (fun j a b=>?_) fun c=>by omega
 by_cases c:j<k
 ·rw [h.zero j k a c hk];decide
 ·rw [h.low j k (by omega) b hk]
  by_cases e:j=k
  ·rw [e,he];decide
  ·rw [hok.2 he j (by omega) b];decide
theorem LdR.step{n k:Nat}{A:Nat->Nat->Rat}{s:ES}(hs:A13 n A)(hk:k<n)(hok:∀ m,m<=k->A0u A n m)(h:LdR n k A s):LdR n (k+1) A (Qx n k s):=by
 have h1:=h.len
 have z:=A6k hs k (by omega) fun m hm=>hok m (by omega)
 have z':=A6k hs (k+1) (by omega) fun m hm=>hok m (by omega)
 unfold Qx
 rw [if_pos (show s.cs.length<n by omega)]
 by_cases e:ldA A k k k=0
 ·rw [h.none hk e (hok k (C6d _)),if_neg (Nat.lt_irrefl n)]
  refine ⟨by show s.cs.length<=k+1;omega,fun i j hi hin hj=>?_,fun i j hi hik hj=>?_⟩
  ·show s.R i j=(if ldA A k k k=0 then ldA A k i j else _)
   rw [if_pos e];exact h.low i j (by omega) hin hj
  ·show s.R i j=0
   by_cases c:i=k
   ·rw [c,h.low k j (C6d _) hk hj]
    have:=z' k j hk hj (.inl (by omega))
    rw [show ldA A (k+1) k j=(if ldA A k k k=0 then ldA A k k j else ldA A k k j-ldA A k k k*(ldA A k k j/ldA A k k k)) from rfl,if_pos e] at this
    exact this
   ·exact h.zero i j hi (by omega) hj
 ·rw [h.row hk e,if_pos hk]
  have hl:(s.cs++[k]).length=s.cs.length+1:=by simp
  have xl:=Dd s.cs.length k
  refine ⟨by show (s.cs++[k]).length<=k+1;omega,fun i j hi hin hj=>?_,fun i j hi hik hj=>?_⟩
  ·show Cw (fun i=>s.R (xch s.cs.length k i)) s.cs.length k i j=(if ldA A k k k=0 then ldA A k i j else _)
   have xi:xch s.cs.length k i=i:=by unfold xch;rw [if_neg (by omega),if_neg (by omega)]
   unfold Cw
   rw [if_neg e,if_neg (by omega)]
   simp only [xl,xi]
   rw [h.low i k (by omega) hin hk,h.low i j (by omega) hin hj,h.low k j (C6d _) hk hj,h.low k k (C6d _) hk hk]
   split
   ·rename_i c
    rcases c with c|c
    ·rw [c];grind
    ·rw [z k j hk hj (.inr c)];grind
   ·rfl
  ·show Cw (fun i=>s.R (xch s.cs.length k i)) s.cs.length k i j=0
   have hi':(s.cs++[k]).length<=i:=hi
   have zr:∀ b,b<n->s.R (xch s.cs.length k i) b=0:=fun b hb=>by
    unfold xch
    rw [if_neg (by omega)]
    split
    ·exact h.zero _ b (C6d _) (by omega) hb
    ·exact h.zero i b (by omega) (by omega) hb
   unfold Cw
   rw [if_neg (by omega),if_pos (.inl (zr k hk))]
   exact zr j hj
theorem LdR.run{n:Nat}{A:Nat->Nat->Rat}(hs:A13 n A):∀ k,k<=n->(∀ m,m<k->A0u A n m)->LdR n k A (B0q n ⟨A,[],1⟩ k):=by
 intro k
 induction k with
 | zero=>exact fun _ _=>⟨C6d _,fun _ _ _ _ _=>rfl,fun i j _ h _=>by omega⟩
 | succ k ih=>exact fun hk hok=>LdR.step hs (by omega) (fun m hm=>hok m (by omega)) (ih (by omega) fun m hm=>hok m (by omega))
def qf(n:Nat)(A:Nat->Nat->Rat)(x:Nat->Rat):Rat:=sm n fun i=>x i*sm n fun j=>A i j*x j
theorem B9v{A:Nat->Nat->Rat}{i k:Nat}(h:i<k):ldL A i k=0:=by unfold ldL;rw [if_neg (by omega),if_pos h]
theorem B9u(A:Nat->Nat->Rat)(k:Nat):ldL A k k=1:=by unfold ldL;rw [if_pos rfl]
theorem A68{n:Nat}{A B:Nat->Nat->Rat}{x y:Nat->Rat}(h:∀ i j,i<n->j<n->A i j=B i j)(hx:∀ i,i<n->x i=y i):qf n A x=qf n B y:=
 C4 fun i hi=>by rw [hx i hi,C4 fun j hj=>by rw [h i j hi hj,hx j hj]]
end Go.Proofs.YtajkakhfcokljaaGreatDoor
